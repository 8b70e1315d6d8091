/- The law JournalMade. -/
import Derived.Test.YtdjjhajkpfiagaaJ11
import Derived.Test.YtdjjhajkpfiagaaC5
import Derived.Test.YtdjjhajkpfiagaaPt
namespace Go.Proofs.Ytdjjhajkpfiagaa
open Go Go.RowKit Rdn Rdn.Dp
set_option linter.unusedVariables false
set_option linter.unusedSimpArgs false
theorem m_written_ok : compF Try.prog 40 = some (21, Qr ([Qp 2 (.mov (.c (.nilS)))])
 (Qr ([Qp 3 (.mov (.c (.nilS)))])
 (.seq (Qr ([Qp 4 (.mov (Qi 0))])
 (.block 0 (.loop (.seq (Qr ([Qm 5 4, Qm 6 0, Qn 7 6, Qb 8 .lss 5 7])
 (.cond (.t 8) (.skip) (.exit 0)))
 (.seq (.block 1 (.reg [Qm 12 3, Qm 13 0, Qm 14 4, Qx 15 4 13 14, QL 16 4 15, Qq 17 66 [(.t 12), (.t 16)], Qm 11 17, Qe 18 11 0, Qe 19 11 1, Qm 3 18]))
 (.reg [Qm 9 4, Qk 10 .add 9 1, Qm 4 10]))))))
 (Qr ([Qm 20 3, Qm 2 20])
 (.ret)))), [.mov (.t 2)]) := by kernel_rfl
theorem m_jmade_ok : compF Try.prog 10 = some (75, Qr ([Qc 8 (.bool false)])
 (.seq (Qr ([Qm 13 0, Qq 14 12 [(.t 13)], Qp 15 (.un .not (.t 14))])
 (.cond (.t 15) (Qr ([Qq 16 13 [], Qm 8 16])
 (.ret)) (.skip)))
 (Qr ([Qm 17 0, Qq 18 15 [(.t 17)], Qm 9 18])
 (Qr ([Qm 19 9, Qq 20 14 [(.t 19), (Qi 8)], Qq 21 40 [(.t 20)], Qm 10 21])
 (Qr ([Qm 22 9, Qq 23 26 [(.t 22), (Qi 8)], Qm 24 9, Qq 25 26 [(.t 24), (Qi 9)], Qk 26 .sub 25 1, Qm 27 9, Qq 28 26 [(.t 27), (Qi 258)], Qk 29 .sub 28 1, Qm 30 10, Qw 31 (.build none [.int .i64 0, .int .i64 0, .int .i64 0, .nilS] [(0, (.t 23)), (1, (.t 26)), (2, (.t 29)), (3, (.t 30))]), Qw 11 (.alloc 34 (.agg [.int .i64 0, .int .i64 0, .int .i64 0, .nilS])), Qs 4 11 31])
 (.seq (Qr ([Qm 32 10, Qn 33 32, Qk 34 .gtr 33 0])
 (.cond (.t 34) (Qr ([Qm 35 1, Qm 36 10, Qn 37 36, Qq 38 17 [(.t 35), (.t 37)], Qm 12 38])
 (Qr ([Qm 39 3, Qp 40 (.bin 0 .rem (.t 39) (.c (.int .u8 4)))])
 (.block 0 (Qr ([Qp 45 (.bin 0 .eql (.t 40) (.c (.int .u8 0))), Qm 44 45])
 (.cond (.t 44) (.reg [Qm 46 10, Qm 47 12, Qx 48 1 46 47, Ql 49 1 48, Qm 50 2, Qb 51 .xor 49 50, Qx 52 1 46 47, Qs 1 52 51]) (Qr ([Qp 54 (.bin 0 .eql (.t 40) (.c (.int .u8 1))), Qm 53 54])
 (.cond (.t 53) (.dreg [Qm 55 10, Qm 56 12, Qw 57 (.sl 1 (.t 55) none (some (.t 56)) none), Qm 58 10, Qm 59 12, Qk 60 .add 59 1, Qw 61 (.sl 1 (.t 58) (some (.t 60)) none none), Qw 62 (.app 5 1 1 (.t 57) (.t 61)), Qm 10 62] [[], [], [0, 1], [], [], [4], [3, 4, 5], [0, 1, 2, 3, 4, 5, 6], [0, 1, 2, 3, 4, 5, 6, 7]]) (Qr ([Qp 64 (.bin 0 .eql (.t 40) (.c (.int .u8 2))), Qm 63 64])
 (.cond (.t 63) (.reg [Qm 65 10, Qm 66 2, Qw 67 (.buildS 5 1 (.int .u8 0) 1 [(0, (.t 66))]), Qw 68 (.app 5 1 1 (.t 65) (.t 67)), Qm 10 68]) (.reg [Qm 41 10, Qm 42 12, Qw 43 (.sl 1 (.t 41) none (some (.t 42)) none), Qm 10 43])))))))))) (.skip)))
 (Qr ([QL 69 4 11, Qm 70 10, Qq 71 39 [(.t 69), (.t 70)], Qm 72 71, ⟨(some 73), (some (72, true)), (.call 13 [])⟩, Qu 74 72 73, Qm 8 74])
 (.ret))))))), [.mov (.t 8)]) := by kernel_rfl
/-- The bytes of the first notes. -/
def jc (ns : List Note) (i : Nat) : List Int := ((ns.take i).map encB).flatten
theorem jc_zero (ns : List Note) : jc ns 0 = [] := rfl
theorem jc_snoc {ns : List Note} {i : Nat} (h : i < ns.length) : jc ns (i + 1) = jc ns i ++ encB ns[i]! := by
  unfold jc
  rw [take_snoc h, List.map_append, List.flatten_append]
  simp
theorem jc_le {ns : List Note} (hn : ∀ x ∈ ns, okNote x) : ∀ {i : Nat}, i ≤ ns.length → (jc ns i).length ≤ 23 * i
  | 0, _ => by simp [jc_zero]
  | i + 1, h => by
    rw [jc_snoc (by omega), List.length_append, encB_len]
    have h1 := jc_le hn (i := i) (by omega)
    have h2 := (hn ns[i]! (mem_at (by omega))).2.2.2.2.2.2.1
    omega
def jw (ns : List Note) (i : Nat) : V := if i = ns.length then .own 0 0 else .sl true 1 (u8s (jc ns i))
def jo (e : TypeId) (ns : List Note) (i : Nat) : List Ob := if i = ns.length then [⟨.row e, true, 0, .arr 1 (u8s (jc ns i))⟩] else []
theorem jw_lt {ns : List Note} {i : Nat} (h : i < ns.length) : jw ns i = .sl true 1 (u8s (jc ns i)) := by unfold jw; rw [if_neg (by omega)]
theorem jw_end (ns : List Note) : jw ns ns.length = .own 0 0 := by unfold jw; rw [if_pos rfl]
theorem jo_lt {e : TypeId} {ns : List Note} {i : Nat} (h : i < ns.length) : jo e ns i = [] := by unfold jo; rw [if_neg (by omega)]
theorem jo_end (e : TypeId) (ns : List Note) : jo e ns ns.length = [⟨.row e, true, 0, .arr 1 (u8s (jc ns ns.length))⟩] := by unfold jo; rw [if_pos rfl]
attribute [local irreducible] jc jw jo encB
set_option maxHeartbeats 4000000 in
theorem rapp_own (j : List Int) (n : Note) (ok : chkN n = 0) (hl : j.length + (encB n).length ≤ 262144) : Fnc Try.prog 66 [.sl false 1 (u8s j), .agg (noteL false n)] (fun x obs => x = .tup [.own 0 0, .int .i64 0] ∧ obs = [⟨.row 5, true, 0, .arr 1 (u8s (j ++ encB n))⟩]) := by
  refine Fnc.wf fun hw => ?_
  simp only [V.wfs, V.wf, List.length_map] at hw
  have hm := hw.1.2
  clear hw
  have ef := renc_fn n
  rw [sEnc, if_pos ok] at ef
  refine zgo m_rapp_ok fun W S => ?_
  refine zcd (ef) ?_
  refine ret m_rapp_ok [1] ?_; exact zfn
set_option maxHeartbeats 4000000 in
theorem written_fn (ns : List Note) (hn : ∀ x ∈ ns, okNote x) (hl : ns.length ≤ 8) : Fnc Try.prog 40 [.sl false 4 (ns.map (noteV false))] (fun x obs => x = .own 0 0 ∧ obs = [⟨.row 5, true, 0, .arr 1 (u8s (jc ns ns.length))⟩]) := by
  by_cases h0 : 0 < ns.length
  · have w0 := jw_lt h0
    have o0 := jo_lt (e := 5) h0
    have z0 := jc_zero ns
    rw [z0] at w0
    refine zgo m_written_ok fun W S => ?_
    refine ev_nil2 3 true 1 rfl ?_
    refine ev_loopK [0] (fun p : {p : Nat // p ≤ ns.length} => [(3, jw ns p.1), (4, .int .i64 p.1)]) (fun p => jo 5 ns p.1) (fun p => ns.length - p.1) (⟨0, by simp⟩) 0 (by simp only [go_sem]; rfl) ?_ (by first | rfl | (simp only [go_sem]; done) | (simp only [go_sem]; simp [w0, o0]; done)) (by simp) (by first | rfl | (simp only [go_sem]; done) | (simp only [w0, o0]; (try simp only [go_sem]); first | done | rfl)) (by first | rfl | (simp only [go_sem]; done)) (by first | rfl | (simp only [go_sem]; done) | (simp only [w0, o0]; (try simp only [go_sem]); first | done | rfl)) ?_
    · (simp only [go_sem]; (try simp [w0, o0]); done)
    intro J hJ
    rintro ⟨i, hi⟩
    by_cases hlt : i < ns.length
    · have hc := jc_le hn hi
      have hs := jc_snoc hlt
      have he := encB_len ns[i]!
      have h11 := (hn ns[i]! (mem_at hlt)).2.2.2.2.2.2.1
      have hok := (hn ns[i]! (mem_at hlt)).chk
      have hR := rapp_own (jc ns i) ns[i]! hok (by omega)
      rw [← hs] at hR
      simp only [jw_lt hlt, jo_lt hlt]
      refine zst ?_
      refine zcx (hR) ?_
      by_cases hlast : i + 1 = ns.length
      · have w1 : jw ns (i + 1) = .own 0 0 := by rw [hlast]; exact jw_end ns
        have o1 : jo 5 ns (i + 1) = [⟨.row 5, true, 0, .arr 1 (u8s (jc ns (i + 1)))⟩] := by rw [hlast]; exact jo_end _ ns
        refine ev_next 1 (hJ _ (⟨i + 1, hlt⟩) (by first | omega | (dsimp only; omega) | (simp; omega))) rfl (by simp) ?_ (by first | rfl | (simp only [go_sem]; done) | (simp only [w1, o1]; (try simp only [go_sem]); first | done | rfl)) (by first | rfl | (simp only [go_sem]; done) | (simp only [w1, o1]; (try simp only [go_sem]); first | done | rfl)) ?_
        · exact zna (And.intro w1 (o1))
        · exact znb (And.intro w1 (o1))
      · have w1 := jw_lt (ns := ns) (i := i + 1) (by omega)
        have o1 := jo_lt (e := 5) (ns := ns) (i := i + 1) (by omega)
        refine ev_freeze 3 rfl rfl ?_
        refine ev_next 0 (hJ _ (⟨i + 1, hlt⟩) (by first | omega | (dsimp only; omega) | (simp; omega))) rfl (by simp) ?_ (by first | rfl | (simp only [go_sem]; done) | (simp only [w1, o1]; (try simp only [go_sem]); first | done | rfl)) (by first | rfl | (simp only [go_sem]; done) | (simp only [w1, o1]; (try simp only [go_sem]); first | done | rfl)) ?_
        · exact zna (And.intro w1 (o1))
        · exact znb (And.intro w1 (o1))
    · obtain rfl : i = ns.length := by omega
      simp only [jw_end, jo_end]
      refine zst ?_
      refine ret m_written_ok [0] ?_; exact zfn
  · have z0 : jc ns ns.length = [] := by rw [show ns.length = 0 by omega]; exact jc_zero ns
    rw [z0]
    refine zgo m_written_ok fun W S => ?_
    refine ev_loopK [0] (fun p : {p : Nat // p = 0} => [(3, .nilS), (4, .int .i64 0)]) (fun p => []) (fun p => 0) (⟨0, rfl⟩) 0 (by simp only [go_sem]; rfl) ?_ (by first | rfl | (simp only [go_sem]; done)) (by simp) (by first | rfl | (simp only [go_sem]; done)) (by first | rfl | (simp only [go_sem]; done)) (by first | rfl | (simp only [go_sem]; done)) ?_
    · (simp only [go_sem]; (try simp []); done)
    intro J hJ
    rintro ⟨i, hi⟩
    refine zst ?_
    refine ev_adopt (i := 2) (e := 5) (s := 1) rfl (by decide) ?_
    refine ret m_written_ok [0] ?_; exact zfn
theorem over_u8s (q m : List Int) (j : Nat) : over (u8s q) j (u8s m) = u8s (q.take j ++ m ++ q.drop (j + m.length)) := by
  simp only [over, List.length_map, ← List.map_take, ← List.map_drop, ← List.map_append]
attribute [local irreducible] dns
set_option maxHeartbeats 8000000 in
theorem jmade_fn (l : List Int) (a y h : Int) : Fnc Try.prog 10 [.sl false 1 (i64s l), .int .i64 a, .int .u8 y, .int .u8 h] (fun x obs => x = .bool true) := by
  refine Fnc.wf fun hw => ?_
  simp only [V.wfs, V.wf, wfs_map, List.length_map] at hw
  have hy := inK_u8' hw.2.2.1
  have hh := inK_u8' hw.2.2.2.1
  clear hw
  by_cases h1 : l.length ≤ 400
  · have hN := notes_fn l 0 8 (by omega) (by omega) (by omega)
    have hok := dns_ok l 0 8
    have hln := dns_len (l := l) (k := 0) (n := 8) (by omega)
    have hkk := dns_le (l := l) (k := 0) (by omega) 8
    generalize dns l 0 8 = q at hN hok hln hkk
    obtain ⟨ns, kk⟩ := q
    dsimp only at hN hok hln hkk
    have hln : ns.length ≤ 8 := hln
    have hW := written_fn ns hok hln
    have hJl := jc_le hok (Nat.le_refl ns.length)
    generalize jc ns ns.length = J at hW hJl
    have p1 := dkx_le hkk
    have p2 := dkx_le p1
    have p3 := dkx_le p2
    have a1 := dnx_ge (l := l) (k := dkx l kk) (n := 9) (by omega)
    have a2 := dnx_lt (l := l) (k := dkx l kk) (n := 9) (by omega)
    have b1 := dnx_ge (l := l) (k := dkx l (dkx l kk)) (n := 258) (by omega)
    have b2 := dnx_lt (l := l) (k := dkx l (dkx l kk)) (n := 258) (by omega)
    by_cases c0 : 0 < J.length
    · have hM := mmod_fn a (J.length : Int) (by omega)
      have m0 := Int.emod_nonneg a (show (J.length : Int) ≠ 0 by omega)
      have m1 := Int.emod_lt_of_pos a (show (0 : Int) < (J.length : Int) by omega)
      obtain ⟨p, hp⟩ : ∃ p : Nat, a % (J.length : Int) = (p : Int) := ⟨(a % (J.length : Int)).toNat, by omega⟩
      rw [hp] at hM m0 m1
      have hpl : p < J.length := by omega
      by_cases d0 : h % 4 = 0
      · skip
        refine zgo m_jmade_ok fun W S => ?_
        refine zcd (few_fn l) ?_
        refine zcx (new_fn l) ?_
        refine zcm (hN) ?_
        refine zcx (hW) ?_
        refine zcm (next_fn l kk 8 hkk (by omega)) ?_
        refine zcm (next_fn l _ 9 p1 (by omega)) ?_
        refine zcm (next_fn l _ 258 p2 (by omega)) ?_
        refine zcd (hM) ?_
        refine evr_calmA ?_; refine zev ?_
        refine zcd (agree39_fn ⟨dnx l kk 8, dnx l (dkx l kk) 9 - 1, dnx l (dkx l (dkx l kk)) 258 - 1, J.set p (bxor .u8 J[p]! y)⟩ (J.set p (bxor .u8 J[p]! y)) (by rw [List.length_set]; omega)) ?_
        refine zcd (awake39_fn) ?_
        refine ret m_jmade_ok [] ?_; (first | (simp only [go_sem]; done) | (simp only [go_sem]; rfl))
      · by_cases d1 : h % 4 = 1
        · have hq : (srcP 1 0 1 (List.map (V.int IntKind.u8) J) (V.osl 1 0 1 ((p : Int) + 1).toNat J.length)).1 = u8s (J.drop (p + 1)) := by
            simp only [srcP, ← List.map_take, ← List.map_drop, List.take_length]
            rw [show ((p : Int) + 1).toNat = p + 1 by omega]
          obtain ⟨K, hov⟩ : ∃ K, J.take p ++ J.drop (p + 1) ++ J.drop (p + (J.drop (p + 1)).length) = K := ⟨_, rfl⟩
          have hcut : List.drop 0 (List.take (p + (J.length - (p + 1))) (u8s K)) = u8s (J.take p ++ J.drop (p + 1)) := by
            rw [List.drop_zero, ← List.map_take, ← hov, List.take_left' (by rw [List.length_append, List.length_take, List.length_drop]; omega)]
          refine zgo m_jmade_ok fun W S => ?_
          refine zcd (few_fn l) ?_
          refine zcx (new_fn l) ?_
          refine zcm (hN) ?_
          refine zcx (hW) ?_
          refine zcm (next_fn l kk 8 hkk (by omega)) ?_
          refine zcm (next_fn l _ 9 p1 (by omega)) ?_
          refine zcm (next_fn l _ 258 p2 (by omega)) ?_
          (first | refine callD (hM) ?_ | refine callDw (hM) ?_); refine zev ?_
          refine zso ?_
          refine ev_draw (fu := []) mixed [] 0 rfl (by kernel_rfl) ?_
          refine evw_all (md := []) (fu := [(), ()]) ?_; refine zev ?_
          refine evw_g (gen_sl (r := 1) (g := 0) (kk := .row 5) rfl (.inl rfl) rfl trivial trivial (by simp only [go_sem]; done) (by simp only [go_sem]; omega) (by simp only [go_sem]; omega)) rfl ?_
          simp only [go_sem]
          refine evw_all (md := []) (fu := [(), (), ()]) ?_; refine zev ?_
          refine evw_g (gen_sl (r := 1) (g := 0) (kk := .row 5) rfl (.inl rfl) rfl trivial trivial (by simp only [go_sem]; omega) (by simp only [go_sem]; omega) (by simp only [go_sem]; omega)) rfl ?_
          simp only [go_sem]
          refine evw_g (gen_app (r := 1) (g := 0) (kk := .row 5) rfl (.inl rfl) rfl ⟨rfl, rfl, rfl⟩ (by simp only [go_sem]; simp only [srcP]; simp; omega)) rfl ?_
          simp only [go_sem]
          simp only [hq, over_u8s, hov, List.length_map]
          refine evw_all (md := []) (fu := [()]) ?_; refine zev ?_
          refine evw_nil (by kernel_rfl) ?_
          refine ev_freezeP 10 rfl rfl ?_
          simp only [hcut]
          refine zst ?_
          refine evr_calmA ?_; refine zev ?_
          refine zcd (agree39_fn ⟨dnx l kk 8, dnx l (dkx l kk) 9 - 1, dnx l (dkx l (dkx l kk)) 258 - 1, K⟩ (J.take p ++ J.drop (p + 1)) (by rw [List.length_append, List.length_take, List.length_drop]; omega)) ?_
          refine zcd (awake39_fn) ?_
          refine ret m_jmade_ok [] ?_; (first | (simp only [go_sem]; done) | (simp only [go_sem]; rfl))
        · by_cases d2 : h % 4 = 2
          · skip
            refine zgo m_jmade_ok fun W S => ?_
            refine zcd (few_fn l) ?_
            refine zcx (new_fn l) ?_
            refine zcm (hN) ?_
            refine zcx (hW) ?_
            refine zcm (next_fn l kk 8 hkk (by omega)) ?_
            refine zcm (next_fn l _ 9 p1 (by omega)) ?_
            refine zcm (next_fn l _ 258 p2 (by omega)) ?_
            (first | refine callD (hM) ?_ | refine callDw (hM) ?_); refine zev ?_
            refine zsu ?_
            refine ev_region ?_; refine zev ?_; repeat (first | refine ev_seq ?_ | refine ev_block ?_ | refine ev_skip ?_ | refine ev_inBlock ?_ | refine evr_nil ?_ | refine evw_nil (by kernel_rfl) ?_ | refine ev_exit rfl ?_ | refine ev_round ?_ | refine ev_condT rfl ?_ | refine ev_condF rfl ?_ | refine ev_condTb rfl (by first | exact decT (by omega) | exact beqT (by omega) | exact bneT (by omega) | exact notT (decF (by omega)) | exact notT (beqF (by omega))) ?_ | refine ev_condFb rfl (by first | exact decF (by omega) | exact beqF (by omega) | exact bneF (by omega) | exact notF (decT (by omega)) | exact notF (beqT (by omega))) ?_)
            refine ev_region ?_; refine zev ?_; repeat (first | refine ev_seq ?_ | refine ev_block ?_ | refine ev_skip ?_ | refine ev_inBlock ?_ | refine evr_nil ?_ | refine evw_nil (by kernel_rfl) ?_ | refine ev_exit rfl ?_ | refine ev_round ?_ | refine ev_condT rfl ?_ | refine ev_condF rfl ?_ | refine ev_condTb rfl (by first | exact decT (by omega) | exact beqT (by omega) | exact bneT (by omega) | exact notT (decF (by omega)) | exact notT (beqF (by omega))) ?_ | refine ev_condFb rfl (by first | exact decF (by omega) | exact beqF (by omega) | exact bneF (by omega) | exact notF (decT (by omega)) | exact notF (beqT (by omega))) ?_)
            refine ev_region ?_; refine zev ?_; repeat (first | refine ev_seq ?_ | refine ev_block ?_ | refine ev_skip ?_ | refine ev_inBlock ?_ | refine evr_nil ?_ | refine evw_nil (by kernel_rfl) ?_ | refine ev_exit rfl ?_ | refine ev_round ?_ | refine ev_condT rfl ?_ | refine ev_condF rfl ?_ | refine ev_condTb rfl (by first | exact decT (by omega) | exact beqT (by omega) | exact bneT (by omega) | exact notT (decF (by omega)) | exact notT (beqF (by omega))) ?_ | refine ev_condFb rfl (by first | exact decF (by omega) | exact beqF (by omega) | exact bneF (by omega) | exact notF (decT (by omega)) | exact notF (beqT (by omega))) ?_)
            refine ev_region ?_; refine zev ?_; repeat (first | refine ev_seq ?_ | refine ev_block ?_ | refine ev_skip ?_ | refine ev_inBlock ?_ | refine evr_nil ?_ | refine evw_nil (by kernel_rfl) ?_ | refine ev_exit rfl ?_ | refine ev_round ?_ | refine ev_condT rfl ?_ | refine ev_condF rfl ?_ | refine ev_condTb rfl (by first | exact decT (by omega) | exact beqT (by omega) | exact bneT (by omega) | exact notT (decF (by omega)) | exact notT (beqF (by omega))) ?_ | refine ev_condFb rfl (by first | exact decF (by omega) | exact beqF (by omega) | exact bneF (by omega) | exact notF (decT (by omega)) | exact notF (beqT (by omega))) ?_)
            refine ev_reg (ev_all (fu := [(), (), ()]) ?_); refine zev ?_
            refine evr_g (gen_appZ (r := 1) (g := 0) (e := 5) (q := u8s J) (m := [.int .u8 y]) (fp := [1, 3]) rfl rfl (by simp) (by simp only [go_sem, topId]; simp) rfl (by simp only [go_sem, srcV, rowV]) (by simp only [go_sem, srcV, rowV]) (by simp; omega) (by simp; omega)) rfl ?_
            simp only [go_sem]
            refine zso ?_
            refine evr_calmA ?_; refine zev ?_
            refine zcd (agree39_fn ⟨dnx l kk 8, dnx l (dkx l kk) 9 - 1, dnx l (dkx l (dkx l kk)) 258 - 1, J⟩ (J ++ [y]) (by rw [List.length_append, List.length_singleton]; omega)) ?_
            refine zcd (awake39_fn) ?_
            refine ret m_jmade_ok [] ?_; (first | (simp only [go_sem]; done) | (simp only [go_sem]; rfl))
          · skip
            refine zgo m_jmade_ok fun W S => ?_
            refine zcd (few_fn l) ?_
            refine zcx (new_fn l) ?_
            refine zcm (hN) ?_
            refine zcx (hW) ?_
            refine zcm (next_fn l kk 8 hkk (by omega)) ?_
            refine zcm (next_fn l _ 9 p1 (by omega)) ?_
            refine zcm (next_fn l _ 258 p2 (by omega)) ?_
            refine zcd (hM) ?_
            refine evr_calmA ?_; (refine zev ?_); (first | refine callD (agree39_fn ⟨dnx l kk 8, dnx l (dkx l kk) 9 - 1, dnx l (dkx l (dkx l kk)) 258 - 1, J⟩ (J.take p) (by rw [List.length_take]; omega)) ?_ | refine callDw (agree39_fn ⟨dnx l kk 8, dnx l (dkx l kk) 9 - 1, dnx l (dkx l (dkx l kk)) 258 - 1, J⟩ (J.take p) (by rw [List.length_take]; omega)) ?_); simp only [go_sem, take_mapU]
            refine zst ?_
            refine zcd (awake39_fn) ?_
            refine ret m_jmade_ok [] ?_; (first | (simp only [go_sem]; done) | (simp only [go_sem]; rfl))
    · obtain rfl : J = [] := List.eq_nil_of_length_eq_zero (by omega)
      refine zgo m_jmade_ok fun W S => ?_
      refine zcd (few_fn l) ?_
      refine zcx (new_fn l) ?_
      refine zcm (hN) ?_
      refine zcx (hW) ?_
      refine zcm (next_fn l kk 8 hkk (by omega)) ?_
      refine zcm (next_fn l _ 9 p1 (by omega)) ?_
      refine zcm (next_fn l _ 258 p2 (by omega)) ?_
      refine evr_calmA ?_; refine zev ?_
      refine zcd (agree39_fn ⟨dnx l kk 8, dnx l (dkx l kk) 9 - 1, dnx l (dkx l (dkx l kk)) 258 - 1, []⟩ [] (by simp)) ?_
      refine zcd (awake39_fn) ?_
      refine ret m_jmade_ok [] ?_; (first | (simp only [go_sem]; done) | (simp only [go_sem]; rfl))
  · skip
    refine zgo m_jmade_ok fun W S => ?_
    refine zcd (few_fn l) ?_
    refine zcd (awake39_fn) ?_
    refine ret m_jmade_ok [] ?_; (first | (simp only [go_sem]; done) | (simp only [go_sem]; rfl))
theorem jmade_law {a0 : List Int} {v0 : Value} {a1 : Int} {v1 : Value} {a2 : Int} {v2 : Value} {a3 : Int} {v3 : Value} (W : World) (e0 : (Sh.slice (Sh.int .i64)).rd (old W) W a0 [v0]) (e1 : (Sh.int .i64).rd (old W) W a1 [v1]) (e2 : (Sh.int .u8).rd (old W) W a2 [v2]) (e3 : (Sh.int .u8).rd (old W) W a3 [v3]) :
    Calls Try.prog 10 #[v0, v1, v2, v3] W fun e w' => e = .returned (.bool true) ∧ Below W.heap.size W w' :=
  Fnc.law (jmade_fn a0 a1 a2 a3) (RdTs.slice enc_i64s e0 (RdTs.int e1 (RdTs.int e2 (RdTs.int e3 RdTs.nil'))))
end Go.Proofs.Ytdjjhajkpfiagaa
