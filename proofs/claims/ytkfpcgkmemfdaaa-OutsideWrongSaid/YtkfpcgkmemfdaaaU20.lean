/- The outside: the law OutsideWrong. -/
import Derived.Test.YtkfpcgkmemfdaaaUE
import Derived.Test.YtkfpcgkmemfdaaaZt
import Derived.Test.YtkfpcgkmemfdaaaUB
namespace Go.Proofs.Ytkfpcgkmemfdaaa
open Go Go.RowKit Rdn Rdn.Dp
set_option linter.unusedVariables false
set_option linter.unusedSimpArgs false
theorem m_rqcpy_ok : compF Try.prog 20 = some (12, Qr ([Qw 1 (.box 43 (.t 0)), Qw 2 (.alloc 43 (.agg [.int .i64 0, .int .i64 0, .int .i64 0, .int .i64 0, .int .i64 0, .int .i64 0, .nilS, .nilS]))])
 (.seq (.dreg [Qf 3 6 6 1, Ql 4 1 3, Qw 5 (.app 47 4 24 (.c (.nilS)) (.t 4)), Qf 6 7 7 1, Ql 7 1 6, Qw 8 (.app 47 4 24 (.c (.nilS)) (.t 7)), Qf 9 6 6 1, Qs 1 9 5, Qf 10 7 7 1, Qs 1 10 8] [[], [0], [0, 1], [], [3], [0, 1, 2, 3, 4], [0, 1, 2, 3, 4], [0, 1, 2, 3, 4, 5, 6], [0, 1, 2, 3, 4, 5, 6, 7], [0, 1, 2, 3, 4, 5, 6, 7, 8]])
 (Qr ([QL 11 8 1, Qs 8 2 11])
 (.ret))), [.load true 8 (.t 2)]) := by kernel_rfl
theorem m_owrong_ok : compF Try.prog 6 = some (116, Qr ([Qc 4 (.bool false)])
 (Qr ([Qm 16 0, Qq 17 11 [(.t 16)], Qm 5 17])
 (Qr ([Qm 18 5, Qq 19 12 [(.t 18)], Qw 6 (.alloc 31 (.agg [.nilS, .nilS, .nilS, .agg [.nilS, .nilS], .nilS])), Qs 6 6 19])
 (Qr ([Qm 20 5, Qq 21 13 [(.t 20)], Qw 7 (.alloc 43 (.agg [.int .i64 0, .int .i64 0, .int .i64 0, .int .i64 0, .int .i64 0, .int .i64 0, .nilS, .nilS])), Qs 8 7 21])
 (.seq (Qr ([Qf 22 6 6 7, Ql 23 1 22, Qn 24 23, Qk 25 .eql 24 0, Qm 26 25, Q0 27 26 (.fieldA 1 1 (.t 7)), Q0 28 26 (.load false 1 (.t 27)), Q0 29 26 (.bin 0 .neq (.t 28) (Qi 1)), Qt 30 26 29])
 (.cond (.t 30) (Qr ([Qq 31 7 [], Qm 4 31])
 (.ret)) (.skip)))
 (Qr ([QL 32 8 7, Qq 33 19 [(.t 32)], Qm 8 33])
 (Qr ([QL 34 8 7, Qq 35 20 [(.t 34)], Qw 9 (.alloc 43 (.agg [.int .i64 0, .int .i64 0, .int .i64 0, .int .i64 0, .int .i64 0, .int .i64 0, .nilS, .nilS])), Qs 8 9 35])
 (.seq (Qr ([Qm 36 1, Qq 37 21 [(.t 36), (Qi 3)]])
 (.block 0 (Qr ([Qk 39 .eql 37 0, Qm 38 39])
 (.cond (.t 38) (.seq (.dreg [Qf 40 6 6 9, Ql 41 1 40, Qf 42 6 6 9, Ql 43 1 42, Qp 44 (.idxA 4 (.t 43) (Qi 0)), Qf 45 0 0 44, Ql 46 1 45, Qp 47 (.bin 0 .rem (.t 46) (.c (.int .u8 3))), Qp 48 (.bin 0 .sub (.c (.int .u8 2)) (.t 47)), Qp 49 (.idxA 4 (.t 41) (Qi 0)), Qf 50 0 0 49, Qs 1 50 48] [[], [0], [], [2], [2, 3], [2, 3, 4], [2, 3, 4, 5], [2, 3, 4, 5, 6], [2, 3, 4, 5, 6, 7], [0, 1, 2, 3, 4, 5, 6, 7, 8], [0, 1, 2, 3, 4, 5, 6, 7, 8, 9], [0, 1, 2, 3, 4, 5, 6, 7, 8, 9, 10]])
 (.dreg [Qf 51 6 6 9, Ql 52 1 51, Qf 53 6 6 9, Ql 54 1 53, Qp 55 (.idxA 4 (.t 52) (Qi 0)), Qf 56 2 2 55, ⟨none, none, (.m (.store 1 (.t 56) (Qi 0)))⟩, Qp 57 (.idxA 4 (.t 54) (Qi 0)), Qf 58 3 3 57, ⟨none, none, (.m (.store 1 (.t 58) (Qi 0)))⟩] [[], [0], [], [2], [0, 1], [0, 1, 4], [0, 1, 4, 5], [0, 1, 2, 3, 4, 5, 6], [0, 1, 2, 3, 4, 5, 6, 7], [0, 1, 2, 3, 4, 5, 6, 7, 8]])) (Qr ([Qk 60 .eql 37 1, Qm 59 60])
 (.cond (.t 59) (.reg [Qf 61 6 6 9, Ql 62 1 61, Qw 63 (.sl 4 (.t 62) (some (Qi 1)) none none), Qf 64 6 6 9, Qs 1 64 63]) (Qr ([Qk 66 .eql 37 2, Qm 65 66])
 (.cond (.t 65) (.reg [Qf 67 1 1 9, ⟨none, none, (.m (.store 1 (.t 67) (Qi 2)))⟩]) (.skip)))))))))
 (Qr ([QL 69 6 6, QL 70 8 9, Qq 71 14 [(.t 69), (.t 70)], Qm 68 71, Qe 72 68 0, Qe 73 68 1, Qe 74 68 2, Qw 10 (.alloc 31 (.agg [.nilS, .nilS, .nilS, .agg [.nilS, .nilS], .nilS])), Qw 11 (.alloc 49 (.agg [.agg [.int .u8 0, .int .u16 0, .int .i64 0, .int .i64 0], .nilS, .int .i64 0, .bool false])), Qs 6 10 72, Qs 7 11 73, Qm 12 74])
 (Qr ([QL 76 6 6, QL 77 8 7, Qq 78 14 [(.t 76), (.t 77)], Qm 75 78, Qe 79 75 0, Qe 80 75 1, Qe 81 75 2, Qw 13 (.alloc 31 (.agg [.nilS, .nilS, .nilS, .agg [.nilS, .nilS], .nilS])), Qw 14 (.alloc 49 (.agg [.agg [.int .u8 0, .int .u16 0, .int .i64 0, .int .i64 0], .nilS, .int .i64 0, .bool false])), Qs 6 13 79, Qs 7 14 80, Qm 15 81])
 (Qr ([Qm 82 12, Qk 83 .eql 82 1, Qm 84 83, Q0 85 84 (.mov (.t 1)), ⟨(some 86), (some (84, false)), (.call 21 [(.t 85), (Qi 3)])⟩, Q0 87 84 (.bin 0 .lss (.t 86) (Qi 2)), Q0 88 84 (.mov (.t 87)), Q1 89 88 (.load true 8 (.t 9)), ⟨(some 90), (some (88, true)), (.call 19 [(.t 89)])⟩, Q0 91 84 (.pick (.t 88) (.t 90) (.c (.bool false))), Qt 92 84 91, Qm 93 92, Q1 94 93 (.mov (.t 15)), Q1 95 93 (.bin 0 .eql (.t 94) (Qi 0)), Q1 96 93 (.mov (.t 95)), Q0 97 96 (.mov (.t 15)), Q0 98 96 (.bin 0 .eql (.t 97) (Qi 1)), Q1 99 93 (.pick (.t 96) (.c (.bool true)) (.t 98)), Qu 100 93 99, Qm 101 100, Q1 102 101 (.mov (.t 15)), Q1 103 101 (.bin 0 .neq (.t 102) (Qi 0)), Q1 104 101 (.mov (.t 103)), Q0 105 104 (.mov (.t 8)), Q0 106 104 (.mov (.t 105)), Q1 107 106 (.fieldA 5 5 (.t 7)), Q1 108 106 (.load false 1 (.t 107)), ⟨(some 109), (some (106, true)), (.call 22 [(.t 108)])⟩, Q0 110 104 (.pick (.t 106) (.t 109) (.c (.bool false))), Q1 111 101 (.pick (.t 104) (.c (.bool true)) (.t 110)), Qu 112 101 111, Qm 113 112, ⟨(some 114), (some (113, true)), (.call 7 [])⟩, Qu 115 113 114, Qm 4 115])
 (.ret))))))))))), [.mov (.t 4)]) := by kernel_rfl
abbrev reqW (q : Request) (x y : V) : V := .agg [.int .i64 q.thread, .int .i64 q.stop, .int .i64 q.trap, .int .i64 q.count, .int .i64 q.pc, .int .i64 q.call, x, y]
set_option maxHeartbeats 4000000 in
theorem rqcpy_fn (q : Request) (h1 : q.args.length ≤ 1000) (h2 : q.data.length ≤ 1000) : Fnc Try.prog 20 [reqV q] (fun x obs => x = reqW q (.own 0 0) (.own 1 0) ∧ obs = [⟨.row 47, true, 0, .arr 4 (q.args.map canonV)⟩, ⟨.row 47, true, 0, .arr 4 (q.data.map canonV)⟩]) := by
  refine Fnc.intro m_rqcpy_ok (by simp) fun W S => ?_
  simp only [ents, Nat.zero_add, Nat.reduceAdd, Qm, Qc, Ql, QL, Qf, Qs, Qb, Qk, QB, Qn, Qe, Qx, Qt, Qu, Q0, Q1, Qp, Qw, Qq, Qr, Qi]
  refine zso ?_
  refine ev_draw (fu := fu8) mixed [2, 5] 2 rfl (by kernel_rfl) ?_; simp only [go_sem]
  repeat (first | refine And.intro (by omega) ?_ | refine And.intro rfl ?_ | refine ev_ctl rfl rfl ?_ | refine evr_nil ?_ | refine evw_nil (by kernel_rfl) ?_ | (simp (disch := omega) only [takeAll, Nat.min_eq_left, Nat.min_eq_right, if_pos, if_neg, getD_map, wrapI64, modIn, fdivE, tmodE, tdivE, decT, decF, beqT, beqF, bneT, bneF, Int.toNat_natCast]; try simp only [go_sem]) | (refine ev_condTb rfl ?_ ?_; · (simp <;> omega)) | (refine ev_condFb rfl ?_ ?_; · (simp <;> omega)) | ((first | refine ev_region ?_ | refine evr_go rfl ?_ | refine evw_gom [2, 5] rfl ?_ | refine ev_dr0 mixed rfl (by kernel_rfl) ?_ | refine ev_dr1 mixed rfl (by kernel_rfl) ?_ | refine ev_dr2 mixed rfl (by kernel_rfl) ?_); simp only [go_sem]))
  refine retN m_rqcpy_ok [2, 3] ?_; exact zfn
theorem rqd_dlen {l : List Int} {c : Int} {k : Nat} : (rqd l c k).2.1.length ≤ 6 := by
  unfold rqd
  generalize rqs l (kl c) k (kl c).length = A
  have h : (rqD l c A).1.length ≤ 6 := by
    unfold rqD
    split
    · exact dcs_len (l := l) (k := A.2) (n := 6) (by omega)
    · exact Nat.zero_le _
  unfold rqe
  split <;> exact h
theorem rq_dlen {l : List Int} {k : Nat} : (rq l k).1.data.length ≤ 6 := by
  unfold rq
  dsimp only
  repeat' split
  · exact Nat.zero_le _
  · exact rqd_dlen
  · exact Nat.zero_le _
attribute [local irreducible] sDo rq usd
theorem sDo_ok {o : Rdn.Outside} {q : Request} (h : (sDo o q).2.2 = 0) : q.stop = 1 ∧ fitsL (kl q.call) (tagsQ q) = true ∧ actB q.call = true := by
  obtain ⟨hF, hk⟩ := sDo_fit h
  obtain ⟨F, A, C, H⟩ := okDo_of hk
  exact ⟨(asks_fit A).2, asks_L A, C⟩
theorem mod3 (w : Int) : w % 3 = 0 ∨ w % 3 = 1 ∨ w % 3 = 2 := by omega
set_option maxHeartbeats 16000000 in
theorem owrong_fn (l : List Int) (w : Int) : Fnc Try.prog 6 [.sl false 1 (i64s l), .int .i64 w] (fun x obs => x = .bool true) := by
  have fa := awake19_fn
  have fu := used_fn l 0 (by omega)
  obtain ⟨hF, hk⟩ := usd_fit (l := l) (k := 0) (by omega)
  generalize usd l 0 = P at fu hF hk
  obtain ⟨o, k⟩ := P
  dsimp only at fu hF hk
  have fq := req_fn l k hk
  have hq3 := rq_len (l := l) (k := k)
  have hqd := rq_dlen (l := l) (k := k)
  generalize rq l k = Q at fq hq3 hqd
  obtain ⟨q, k2⟩ := Q
  dsimp only at fq hq3 hqd
  have fm := mmod_fn w 3 (by omega)
  have fk := rkinds_fn q (by omega)
  have fc := rqcpy_fn q (by omega) (by omega)
  by_cases h0 : q.args.length = 0
  · skip
    refine zgo m_owrong_ok fun W S => ?_
    refine zcx (new_fn l) ?_
    refine zcm (fu) ?_
    refine zcm (fq) ?_
    refine zcd (fa) ?_
    exact zrt m_owrong_ok
  by_cases hs : q.stop = 1
  rotate_left
  · skip
    refine zgo m_owrong_ok fun W S => ?_
    refine zcx (new_fn l) ?_
    refine zcm (fu) ?_
    refine zcm (fq) ?_
    refine zcd (fa) ?_
    exact zrt m_owrong_ok
  have fx := fun x : Request => fun hx : x.args.length ≤ 3 => wdo_fn o x (by omega)
  have fd := fx q hq3
  have fkx := fun x : Request => fun hx : x.args.length ≤ 3 => rkinds_fn x (by omega)
  have hs1 : q.stop = 1 := hs
  obtain ⟨a, az, ha⟩ : ∃ a az, q.args = a :: az := by
    cases e : q.args with
    | nil => rw [e] at h0; exact absurd rfl h0
    | cons a az => exact ⟨a, az, rfl⟩
  obtain ⟨th, st, tr, cn, pc, cl, args, data⟩ := q
  dsimp only at ha hq3 hs hs1 h0
  subst ha hs
  have hla : az.length ≤ 2 := by simp at hq3; omega
  simp only [reqW, List.map_cons] at fc
  have ef := sDo_e o ⟨th, 1, tr, cn, pc, cl, a :: az, data⟩
  have gf := fun h => sDo_ok (o := o) (q := ⟨th, 1, tr, cn, pc, cl, a :: az, data⟩) h
  have fw := wact_fn cl
  rcases mod3 w with c | c | c <;> rw [c] at fm
  · have ex := sDo_e o ⟨th, 1, tr, cn, pc, cl, ⟨(2 - a.tag.tmod 3) % 256, a.val, 0, 0⟩ :: az, data⟩
    have gx := fun h => sDo_ok (o := o) (q := ⟨th, 1, tr, cn, pc, cl, ⟨(2 - a.tag.tmod 3) % 256, a.val, 0, 0⟩ :: az, data⟩) h
    have fdx := fx ⟨th, 1, tr, cn, pc, cl, ⟨(2 - a.tag.tmod 3) % 256, a.val, 0, 0⟩ :: az, data⟩ (by simp; omega)
    have fkk := fkx ⟨th, 1, tr, cn, pc, cl, ⟨(2 - a.tag.tmod 3) % 256, a.val, 0, 0⟩ :: az, data⟩ (by simp; omega)
    simp only [reqV, List.map_cons] at fdx fkk
    rcases ex with ex | ex
    · rw [ex] at fdx
      rw [(gx ex).2.1] at fkk
      rcases ef with ef | ef
      · rw [ef] at fd
        rw [(gf ef).2.1] at fk
        rw [(gf ef).2.2] at fw
        refine zgo m_owrong_ok fun W S => ?_
        refine zcx (new_fn l) ?_
        refine zcm (fu) ?_
        refine zcm (fq) ?_
        refine zcd (fk) ?_
        refine zcx (fc) ?_
        refine zcd (fm) ?_
        refine evr_calmC ?_; refine zev ?_
        refine zcd (fdx) ?_
        refine zcd (fd) ?_
        refine zcd (fm) ?_
        refine zcd (fkk) ?_
        refine zcd (fw) ?_
        refine zcd (fa) ?_
        exact zrt m_owrong_ok
      · rw [ef] at fd
        refine zgo m_owrong_ok fun W S => ?_
        refine zcx (new_fn l) ?_
        refine zcm (fu) ?_
        refine zcm (fq) ?_
        refine zcd (fk) ?_
        refine zcx (fc) ?_
        refine zcd (fm) ?_
        refine evr_calmC ?_; refine zev ?_
        refine zcd (fdx) ?_
        refine zcd (fd) ?_
        refine zcd (fm) ?_
        refine zcd (fkk) ?_
        refine zcd (fa) ?_
        exact zrt m_owrong_ok
    · rw [ex] at fdx
      rcases ef with ef | ef
      · rw [ef] at fd
        rw [(gf ef).2.1] at fk
        rw [(gf ef).2.2] at fw
        refine zgo m_owrong_ok fun W S => ?_
        refine zcx (new_fn l) ?_
        refine zcm (fu) ?_
        refine zcm (fq) ?_
        refine zcd (fk) ?_
        refine zcx (fc) ?_
        refine zcd (fm) ?_
        refine evr_calmC ?_; refine zev ?_
        refine zcd (fdx) ?_
        refine zcd (fd) ?_
        refine zcd (fw) ?_
        refine zcd (fa) ?_
        exact zrt m_owrong_ok
      · rw [ef] at fd
        refine zgo m_owrong_ok fun W S => ?_
        refine zcx (new_fn l) ?_
        refine zcm (fu) ?_
        refine zcm (fq) ?_
        refine zcd (fk) ?_
        refine zcx (fc) ?_
        refine zcd (fm) ?_
        refine evr_calmC ?_; refine zev ?_
        refine zcd (fdx) ?_
        refine zcd (fd) ?_
        refine zcd (fa) ?_
        exact zrt m_owrong_ok
  · have ex := sDo_e o ⟨th, 1, tr, cn, pc, cl, az, data⟩
    have gx := fun h => sDo_ok (o := o) (q := ⟨th, 1, tr, cn, pc, cl, az, data⟩) h
    have fdx := fx ⟨th, 1, tr, cn, pc, cl, az, data⟩ (by simp; omega)
    have fkk := fkx ⟨th, 1, tr, cn, pc, cl, az, data⟩ (by simp; omega)
    simp only [reqV] at fdx fkk
    rcases ex with ex | ex
    · rw [ex] at fdx
      rw [(gx ex).2.1] at fkk
      rcases ef with ef | ef
      · rw [ef] at fd
        rw [(gf ef).2.1] at fk
        rw [(gf ef).2.2] at fw
        refine zgo m_owrong_ok fun W S => ?_
        refine zcx (new_fn l) ?_
        refine zcm (fu) ?_
        refine zcm (fq) ?_
        refine zcd (fk) ?_
        refine zcx (fc) ?_
        refine zcd (fm) ?_
        refine evr_calmC ?_; refine zev ?_
        refine zcd (fdx) ?_
        refine zcd (fd) ?_
        refine zcd (fm) ?_
        refine zcd (fkk) ?_
        refine zcd (fw) ?_
        refine zcd (fa) ?_
        exact zrt m_owrong_ok
      · rw [ef] at fd
        refine zgo m_owrong_ok fun W S => ?_
        refine zcx (new_fn l) ?_
        refine zcm (fu) ?_
        refine zcm (fq) ?_
        refine zcd (fk) ?_
        refine zcx (fc) ?_
        refine zcd (fm) ?_
        refine evr_calmC ?_; refine zev ?_
        refine zcd (fdx) ?_
        refine zcd (fd) ?_
        refine zcd (fm) ?_
        refine zcd (fkk) ?_
        refine zcd (fa) ?_
        exact zrt m_owrong_ok
    · rw [ex] at fdx
      rcases ef with ef | ef
      · rw [ef] at fd
        rw [(gf ef).2.1] at fk
        rw [(gf ef).2.2] at fw
        refine zgo m_owrong_ok fun W S => ?_
        refine zcx (new_fn l) ?_
        refine zcm (fu) ?_
        refine zcm (fq) ?_
        refine zcd (fk) ?_
        refine zcx (fc) ?_
        refine zcd (fm) ?_
        refine evr_calmC ?_; refine zev ?_
        refine zcd (fdx) ?_
        refine zcd (fd) ?_
        refine zcd (fw) ?_
        refine zcd (fa) ?_
        exact zrt m_owrong_ok
      · rw [ef] at fd
        refine zgo m_owrong_ok fun W S => ?_
        refine zcx (new_fn l) ?_
        refine zcm (fu) ?_
        refine zcm (fq) ?_
        refine zcd (fk) ?_
        refine zcx (fc) ?_
        refine zcd (fm) ?_
        refine evr_calmC ?_; refine zev ?_
        refine zcd (fdx) ?_
        refine zcd (fd) ?_
        refine zcd (fa) ?_
        exact zrt m_owrong_ok
  · have ex := sDo_e o ⟨th, 2, tr, cn, pc, cl, a :: az, data⟩
    have gx := fun h => sDo_ok (o := o) (q := ⟨th, 2, tr, cn, pc, cl, a :: az, data⟩) h
    have fdx := fx ⟨th, 2, tr, cn, pc, cl, a :: az, data⟩ (by simp; omega)
    have fkk := fkx ⟨th, 2, tr, cn, pc, cl, a :: az, data⟩ (by simp; omega)
    simp only [reqV] at fdx fkk
    rcases ex with ex | ex
    · exact absurd (show (2 : Int) = 1 from (gx ex).1) (by decide)
    · rw [ex] at fdx
      rcases ef with ef | ef
      · rw [ef] at fd
        rw [(gf ef).2.1] at fk
        rw [(gf ef).2.2] at fw
        refine zgo m_owrong_ok fun W S => ?_
        refine zcx (new_fn l) ?_
        refine zcm (fu) ?_
        refine zcm (fq) ?_
        refine zcd (fk) ?_
        refine zcx (fc) ?_
        refine zcd (fm) ?_
        refine evr_calmC ?_; refine zev ?_
        refine zcd (fdx) ?_
        refine zcd (fd) ?_
        refine zcd (fw) ?_
        refine zcd (fa) ?_
        exact zrt m_owrong_ok
      · rw [ef] at fd
        refine zgo m_owrong_ok fun W S => ?_
        refine zcx (new_fn l) ?_
        refine zcm (fu) ?_
        refine zcm (fq) ?_
        refine zcd (fk) ?_
        refine zcx (fc) ?_
        refine zcd (fm) ?_
        refine evr_calmC ?_; refine zev ?_
        refine zcd (fdx) ?_
        refine zcd (fd) ?_
        refine zcd (fa) ?_
        exact zrt m_owrong_ok
theorem owr_law {a0 : List Int} {v0 : Value} {a1 : Int} {v1 : Value} (W : World) (e0 : (Sh.slice (Sh.int .i64)).rd (old W) W a0 [v0]) (e1 : (Sh.int .i64).rd (old W) W a1 [v1]) :
    Calls Try.prog 6 #[v0, v1] W fun e w' => e = .returned (.bool true) ∧ Below W.heap.size W w' :=
  Fnc.law (owrong_fn a0 a1) (RdTs.slice enc_i64s e0 (RdTs.int e1 RdTs.nil'))
end Go.Proofs.Ytkfpcgkmemfdaaa
