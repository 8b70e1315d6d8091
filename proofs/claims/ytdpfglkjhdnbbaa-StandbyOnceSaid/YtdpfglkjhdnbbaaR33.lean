/- The law StandbyOnce. -/
import Derived.Test.YtdpfglkjhdnbbaaR30
import Derived.Test.YtdpfglkjhdnbbaaC5
import Derived.Test.YtdpfglkjhdnbbaaR28
import Derived.Test.YtdpfglkjhdnbbaaR26
import Derived.Test.YtdpfglkjhdnbbaaGF
import Derived.Test.YtdpfglkjhdnbbaaC4
import Derived.Test.YtdpfglkjhdnbbaaReads
namespace Go.Proofs.Ytdpfglkjhdnbbaa
open Go Go.RowKit Rdn Rdn.Dp
set_option linter.unusedVariables false
set_option linter.unusedSimpArgs false
theorem m_sonce_ok : compF Try.prog 6 = some (185, Qr ([Qc 2 (.bool false)])
 (.seq (Qr ([Qm 16 0, Qq 17 17 [(.t 16)], Qp 18 (.un .not (.t 17))])
 (.cond (.t 18) (Qr ([Qq 19 7 [], Qm 2 19])
 (.ret)) (.skip)))
 (Qr ([Qm 20 0, Qq 21 18 [(.t 20)], Qm 3 21])
 (Qr ([Qm 23 3, Qq 24 25 [(.t 23), (Qi 3)], Qp 25 (.bin 0 .add (Qi 1) (.t 24)), Qq 26 8 [(.t 25)], Qm 22 26, Qe 27 22 0, Qe 28 22 1, Qw 4 (.alloc 36 (.agg [.int .i64 0, .int .i64 0, .int .i64 0, .nilS, .nilS, .nilS, .agg [.int .i64 0, .int .i64 0, .int .i64 0, .nilS], .int .i64 0, .agg [.int .i64 0, .int .i64 0, .nilS]])), Qs 14 4 27, Qm 5 28])
 (Qr ([Qw 6 (.alloc 32 (.agg [.int .i64 0, .int .i64 0, .int .i64 0, .nilS]))])
 (Qr ([Qp 7 (.mov (Qi 1))])
 (Qr ([Qp 8 (.mov (.c (.nilS)))])
 (.seq (Qr ([Qp 9 (.mov (Qi 0))])
 (.block 0 (.loop (.seq (Qr ([Qm 29 9, Qk 30 .lss 29 60, Qm 31 30, Q1 32 31 (.mov (.t 3)), ⟨(some 33), (some (31, true)), (.call 26 [(.t 32)])⟩, Qu 34 31 33])
 (.cond (.t 34) (.skip) (.exit 0)))
 (.seq (.block 1 (Qr ([Qm 37 3, QL 38 14 4, Qq 39 27 [(.t 37), (.t 38)], Qw 10 (.alloc 26 (.agg [.int .i64 0, .int .i64 0, .int .i64 0, .nilS])), Qs 4 10 39])
 (Qr ([Qw 11 (.alloc 36 (.agg [.int .i64 0, .int .i64 0, .int .i64 0, .nilS, .nilS, .nilS, .agg [.int .i64 0, .int .i64 0, .int .i64 0, .nilS], .int .i64 0, .agg [.int .i64 0, .int .i64 0, .nilS]]))])
 (Qr ([Qp 12 (.mov (Qi 0))])
 (Qr ([Qc 13 (.bool false)])
 (.seq (Qr ([Qm 40 3, Qq 41 25 [(.t 40), (Qi 8)]])
 (.block 2 (Qr ([Qk 77 .eql 41 0, Qm 76 77])
 (.cond (.t 76) (.dreg [QL 79 14 4, QL 80 4 10, Qm 81 3, Qq 82 25 [(.t 81), (Qi 30)], Qk 83 .sub 82 1, Qm 84 3, Qq 85 25 [(.t 84), (Qi 30)], Qk 86 .sub 85 1, Qq 87 28 [(.t 79), (.t 80), (.t 83), (.t 86)], Qm 78 87, Qe 88 78 0, Qe 89 78 1, Qs 14 11 88, Qm 12 89] [[], [], [], [2], [2, 3], [], [2, 3, 5], [2, 3, 5, 6], [0, 1, 2, 3, 4, 5, 6, 7], [0, 1, 2, 3, 4, 5, 6, 7, 8], [0, 1, 2, 3, 4, 5, 6, 7, 8, 9], [0, 1, 2, 3, 4, 5, 6, 7, 8, 9], [0, 1, 2, 3, 4, 5, 6, 7, 8, 9, 10], [0, 1, 2, 3, 4, 5, 6, 7, 8, 9, 10, 11, 12]]) (Qr ([Qk 91 .eql 41 1, Qm 90 91])
 (.cond (.t 90) (.reg [QL 93 14 4, Qq 94 29 [(.t 93)], Qm 92 94, Qe 95 92 0, Qe 96 92 1, Qe 97 92 2, Qs 14 11 95, Qm 12 97]) (Qr ([Qk 99 .eql 41 2, Qm 98 99])
 (.cond (.t 98) (.dreg [QL 101 14 4, Qm 102 3, Qq 103 25 [(.t 102), (Qi 2)], Qq 104 19 [(.t 101), (.t 103)], Qm 100 104, Qe 105 100 0, Qe 106 100 1, Qs 14 11 105, Qm 12 106] [[], [], [1], [0, 1, 2], [0, 1, 2, 3], [0, 1, 2, 3, 4], [0, 1, 2, 3, 4], [0, 1, 2, 3, 4, 5], [0, 1, 2, 3, 4, 5, 6, 7]]) (Qr ([Qk 108 .eql 41 3, Qm 107 108])
 (.cond (.t 107) (.dreg [QL 110 14 4, Qm 111 3, Qq 112 25 [(.t 111), (Qi 2)], Qq 113 22 [(.t 110), (.t 112)], Qm 109 113, Qe 114 109 0, Qe 115 109 1, Qs 14 11 114, Qm 12 115] [[], [], [1], [0, 1, 2], [0, 1, 2, 3], [0, 1, 2, 3, 4], [0, 1, 2, 3, 4], [0, 1, 2, 3, 4, 5], [0, 1, 2, 3, 4, 5, 6, 7]]) (.seq (Qr ([Qk 117 .eql 41 4, Qm 116 117])
 (.cond (.t 116) (.skip) (.reg [Qk 118 .eql 41 5, Qm 116 118])))
 (.cond (.t 116) (.reg [QL 120 14 4, Qq 121 23 [(.t 120)], Qm 119 121, Qe 122 119 0, Qe 123 119 1, Qe 124 119 2, Qs 14 11 122, Qm 13 123, Qm 12 124]) (Qr ([QL 43 14 4, QL 44 4 10, Qq 45 21 [(.t 43), (.t 44)], Qm 42 45, Qe 46 42 0, Qe 47 42 1, Qs 14 11 46, Qm 12 47])
 (Qr ([Qm 48 12, Qk 49 .eql 48 0])
 (.cond (.t 49) (.seq (Qr ([Qf 50 6 6 11, Qf 51 3 3 50, Ql 52 1 51, Qn 53 52, Qm 14 53])
 (Qr ([Qf 54 6 6 11, Qf 55 0 0 54, Ql 56 1 55, Qf 57 0 0 6, Ql 58 1 57, Qb 59 .gtr 56 58, Qm 60 59, Q1 61 60 (.mov (.t 14)), Q1 62 60 (.bin 0 .gtr (.t 61) (Qi 0)), Qu 63 60 62])
 (.cond (.t 63) (.reg [Qm 64 8, Qf 65 6 6 11, Qf 66 3 3 65, Ql 67 1 66, Qm 68 14, Qk 69 .sub 68 1, Qx 70 3 67 69, QL 71 3 70, Qw 72 (.buildS 59 3 (.agg [.int .i64 0, .int .i64 0, .nilS]) 1 [(0, (.t 71))]), Qw 73 (.app 59 3 40 (.t 64) (.t 72)), Qm 8 73]) (.skip))))
 (.reg [Qf 74 6 6 11, QL 75 4 74, Qs 4 6 75])) (.skip))))))))))))))))
 (.seq (Qr ([QL 125 14 11, Qq 126 30 [(.t 125)], Qk 127 .neq 126 0, Qm 128 127, Q0 129 128 (.mov (.t 13)), Q0 130 128 (.mov (.t 129)), Q1 131 130 (.fieldA 6 6 (.t 11)), Q1 132 130 (.load true 4 (.t 131)), Q1 133 130 (.load true 4 (.t 6)), ⟨(some 134), (some (130, true)), (.call 16 [(.t 132), (.t 133)])⟩, Q1 135 130 (.un .not (.t 134)), Q1 136 130 (.mov (.t 135)), Q0 137 136 (.fieldA 10 7 (.t 11)), Q0 138 136 (.load false 1 (.t 137)), Q0 139 136 (.mov (.t 7)), Q0 140 136 (.bin 0 .leq (.t 138) (.t 139)), Q1 141 130 (.pick (.t 136) (.c (.bool true)) (.t 140)), Q0 142 128 (.pick (.t 130) (.t 141) (.c (.bool false))), Qt 143 128 142])
 (.cond (.t 143) (Qr ([Qc 2 (.bool false)])
 (.ret)) (.skip)))
 (.seq (Qr ([Qm 144 13])
 (.cond (.t 144) (.reg [Qf 145 10 7 11, Ql 146 1 145, Qm 7 146]) (.skip)))
 (Qr ([Qf 147 11 8 11, QL 148 3 147, Qw 15 (.alloc 34 (.agg [.int .i64 0, .int .i64 0, .nilS])), Qs 3 15 148])
 (.seq (.seq (.dreg [Qf 149 0 0 15, Ql 150 1 149, Qf 151 1 1 6, Ql 152 1 151, Qb 153 .gtr 150 152, Qm 154 153, Q0 155 154 (.fieldA 0 0 (.t 15)), Q0 156 154 (.load false 1 (.t 155)), Q0 157 154 (.fieldA 2 2 (.t 15)), Q0 158 154 (.load false 1 (.t 157)), Q0 159 154 (.len (.t 158)), Q0 160 154 (.bin 0 .neq (.t 156) (.t 159)), Qt 161 154 160, Qm 162 161, Q0 163 162 (.fieldA 0 0 (.t 15)), Q0 164 162 (.load false 1 (.t 163)), Q0 165 162 (.mov (.t 8)), Q0 166 162 (.len (.t 165)), Q0 167 162 (.bin 0 .gtr (.t 164) (.t 166)), Qt 168 162 167, Qm 169 168, Q0 170 169 (.fieldA 2 2 (.t 15)), Q0 171 169 (.load false 1 (.t 170)), Q0 172 169 (.mov (.t 8)), Q0 173 169 (.fieldA 0 0 (.t 15)), Q0 174 169 (.load false 1 (.t 173)), ⟨(some 175), (some (169, false)), (.m (.sl 3 (.t 172) none (some (.t 174)) none))⟩, ⟨(some 176), (some (169, false)), (.call 31 [(.t 171), (.t 175)])⟩, Q0 177 169 (.un .not (.t 176)), Qt 178 169 177] [[], [0], [], [2], [0, 1, 2, 3], [0, 1, 2, 3, 4], [0, 1, 2, 3, 4, 5], [0, 1, 2, 3, 4, 5, 6], [0, 1, 2, 3, 4, 5], [0, 1, 2, 3, 4, 5, 8], [0, 1, 2, 3, 4, 5, 8, 9], [0, 1, 2, 3, 4, 5, 6, 7, 8, 9, 10], [0, 1, 2, 3, 4, 5, 6, 7, 8, 9, 10, 11], [0, 1, 2, 3, 4, 5, 6, 7, 8, 9, 10, 11, 12], [0, 1, 2, 3, 4, 5, 6, 7, 8, 9, 10, 11, 12, 13], [0, 1, 2, 3, 4, 5, 6, 7, 8, 9, 10, 11, 12, 13, 14], [0, 1, 2, 3, 4, 5, 6, 7, 8, 9, 10, 11, 12, 13], [0, 1, 2, 3, 4, 5, 6, 7, 8, 9, 10, 11, 12, 13, 16], [0, 1, 2, 3, 4, 5, 6, 7, 8, 9, 10, 11, 12, 13, 14, 15, 16, 17], [0, 1, 2, 3, 4, 5, 6, 7, 8, 9, 10, 11, 12, 13, 14, 15, 16, 17, 18], [0, 1, 2, 3, 4, 5, 6, 7, 8, 9, 10, 11, 12, 13, 14, 15, 16, 17, 18, 19], [0, 1, 2, 3, 4, 5, 6, 7, 8, 9, 10, 11, 12, 13, 14, 15, 16, 17, 18, 19, 20], [0, 1, 2, 3, 4, 5, 6, 7, 8, 9, 10, 11, 12, 13, 14, 15, 16, 17, 18, 19, 20, 21], [0, 1, 2, 3, 4, 5, 6, 7, 8, 9, 10, 11, 12, 13, 14, 15, 16, 17, 18, 19, 20], [0, 1, 2, 3, 4, 5, 6, 7, 8, 9, 10, 11, 12, 13, 14, 15, 16, 17, 18, 19, 20], [0, 1, 2, 3, 4, 5, 6, 7, 8, 9, 10, 11, 12, 13, 14, 15, 16, 17, 18, 19, 20, 24], [0, 1, 2, 3, 4, 5, 6, 7, 8, 9, 10, 11, 12, 13, 14, 15, 16, 17, 18, 19, 20, 23, 24, 25], [0, 1, 2, 3, 4, 5, 6, 7, 8, 9, 10, 11, 12, 13, 14, 15, 16, 17, 18, 19, 20, 21, 22, 23, 24, 25, 26], [0, 1, 2, 3, 4, 5, 6, 7, 8, 9, 10, 11, 12, 13, 14, 15, 16, 17, 18, 19, 20, 21, 22, 23, 24, 25, 26, 27], [0, 1, 2, 3, 4, 5, 6, 7, 8, 9, 10, 11, 12, 13, 14, 15, 16, 17, 18, 19, 20, 21, 22, 23, 24, 25, 26, 27, 28]])
 (.cond (.t 178) (Qr ([Qc 2 (.bool false)])
 (.ret)) (.skip)))
 (.reg [QL 179 14 11, Qs 14 4 179])))))))))))
 (.reg [Qm 35 9, Qk 36 .add 35 1, Qm 9 36]))))))
 (Qr ([Qm 180 5, Qk 181 .eql 180 0, Qm 182 181, ⟨(some 183), (some (182, true)), (.call 7 [])⟩, Qu 184 182 183, Qm 2 184])
 (.ret))))))))), [.mov (.t 2)]) := by kernel_rfl
theorem sNew_ok {w : Int} (h1 : 1 ≤ w) (h2 : w ≤ 1000) : sNew w = (pN w, 0) := if_neg (by omega)
structure OnS where
  x : Pair
  g : Gateway
  out : List Output
  gr : Nat
  k : Nat
  f : Int
  ov : Bool
structure OnOk (l : List Int) (ep : Int) (y : OnS) : Prop where
  k : y.k ≤ l.length
  i : (y.ov = false ∧ Inv y.x y.g ep y.out) ∨ (y.ov = true ∧ y.x.gateway = y.g ∧ y.x.epoch = ep + 1 ∧ Inv y.x y.g (ep + 1) y.out)
abbrev onO (l : List Int) (p : Pair) (n : Note) (y : OnS) : List Ob := [⟨.box false 87, true, 0, deckV l y.k⟩, ⟨.box false 36, true, 0, prV false p⟩, ⟨.box false 32, true, 0, .agg (gwL false y.g)⟩, ⟨.row 59, true, y.gr, .arr 3 (y.out.map (outputV false))⟩, ⟨.box false 26, true, 0, .agg (noteL false n)⟩, ⟨.box false 36, true, 0, prV false y.x⟩]
attribute [local irreducible] sWr sTear sSnd sFail sStart sTick chkP sNew noteS
set_option maxHeartbeats 32000000 in
theorem sonce_fn (l : List Int) : Fnc Try.prog 6 [.sl false 1 (i64s l)] (fun x obs => x = .bool true) := by
  have fa := awake40_fn
  by_cases h1 : l.length ≤ 400
  rotate_left
  · skip
    refine zgo m_sonce_ok fun W S => ?_
    refine zcd (few_fn l) ?_
    refine zcd (fa) ?_
    refine ret m_sonce_ok [] ?_; (first | (simp only [go_sem]; done) | (simp only [go_sem]; rfl))
  have hk0 : (0 : Nat) ≤ l.length := by omega
  have f1 := next_fn l 0 3 hk0 (by omega)
  have w1 := dnx_ge (l := l) (k := 0) (n := 3) (by omega)
  have w2 := dnx_lt (l := l) (k := 0) (n := 3) (by omega)
  have k1 := dkx_le hk0
  have f2 := pnew_fn (1 + dnx l 0 3)
  rw [sNew_ok (by omega) (by omega)] at f2
  have i0 := inv_new (w := 1 + dnx l 0 3) (by omega) (by omega)
  generalize pN (1 + dnx l 0 3) = P0 at *
  refine zgo m_sonce_ok fun W S => ?_
  refine zcd (few_fn l) ?_
  refine zcx (new_fn l) ?_
  refine zcm (f1) ?_
  refine zcd (f2) ?_
  refine ev_obSub 2 _ rfl gw_sub rfl ?_
  refine ev_adopt (i := 8) (e := 59) (s := 3) rfl (by decide) ?_
  refine ev_loopK [3, 4, 5, 6] (fun q : {q : Pair × Gateway × Int × List Output × Nat × Nat × Nat // Inv q.1 q.2.1 q.2.2.1 q.2.2.2.1 ∧ q.2.2.2.2.2.1 ≤ l.length ∧ q.2.2.2.2.2.2 ≤ 60} => [(7, .int .i64 q.1.2.2.1), (8, .own 3 q.1.2.2.2.2.1), (9, .int .i64 q.1.2.2.2.2.2.2)]) (fun q => [⟨.box false 87, true, 0, deckV l q.1.2.2.2.2.2.1⟩, ⟨.box false 36, true, 0, prV false q.1.1⟩, ⟨.box false 32, true, 0, .agg (gwL false q.1.2.1)⟩, ⟨.row 59, true, q.1.2.2.2.2.1, .arr 3 (q.1.2.2.2.1.map (outputV false))⟩]) (fun q => 60 - q.1.2.2.2.2.2.2) (⟨(P0, g0, 1, [], 0, dkx l 0, 0), i0, k1, by simp⟩) 4 (by simp only [go_sem]; rfl) ?_ (by first | rfl | (simp only [go_sem]; done)) (by simp) (by first | rfl | (simp only [go_sem]; done)) (by first | rfl | (simp only [go_sem]; done)) (by first | rfl | (simp only [go_sem]; done)) ?_
  · (simp only [go_sem]; (try simp []); done)
  intro J hJ
  rintro ⟨⟨p, g, ep, out, gr, k, t⟩, hI, hk, ht⟩
  dsimp only at hI hk ht ⊢
  clear i0 f1 f2 w1 w2 k1
  by_cases c1 : t < 60
  rotate_left
  · refine zst ?_
    refine zcd (fa) ?_
    refine ret m_sonce_ok [] ?_; (first | (simp only [go_sem]; done) | (simp only [go_sem]; rfl))
  have fl := left_fn l k hk
  by_cases c2 : k < l.length
  rotate_left
  · rw [decF c2] at fl
    refine zst ?_
    refine zcm (fl) ?_
    refine zcd (fa) ?_
    refine ret m_sonce_ok [] ?_; (first | (simp only [go_sem]; done) | (simp only [go_sem]; rfl))
  rw [decT c2] at fl
  have fn := nt40_fn l k p hk
  have hk2 := noteS_le (l := l) (k := k) p hk
  generalize noteS l k p = n at *
  obtain ⟨n, K⟩ := n
  dsimp only at fn hk2
  have f8 := next_fn l K 8 hk2 (by omega)
  have z0 := dnx_ge (l := l) (k := K) (n := 8) (by omega)
  have z1 := dnx_lt (l := l) (k := K) (n := 8) (by omega)
  have hk3 := dkx_le hk2
  generalize dnx l K 8 = z at *
  generalize dkx l K = K3 at *
  refine zst ?_
  refine zcm (fl) ?_
  refine zcm (fn) ?_
  refine Rdn.Dp.zcn (f8) ?_
  refine evr_nil ?_
  refine ev_cutK (ι := {y : OnS // OnOk l ep y}) [3, 4, 5, 6, 7, 9, 10, 11] (fun y => [(8, .own 3 y.1.gr), (12, .int .i64 y.1.f), (13, .bool y.1.ov)]) (fun y => onO l p n y.1) (by simp only [go_sem]; rfl) ?_ ?_
  · rintro ⟨y, hy⟩
    have hJ2 := hJ
    obtain ⟨x, g2, out2, gr2, K4, e, ov⟩ := y
    obtain ⟨hk4, hi⟩ := hy
    dsimp only at hk4 hi ⊢
    have key : ∃ ep2, Inv x g2 ep2 out2 ∧ (ov = false ∧ ep2 = ep ∨ ov = true ∧ ep2 = ep + 1 ∧ x.gateway = g2 ∧ x.epoch = ep2) := by
      rcases hi with ⟨h1, h2⟩ | ⟨h1, h2, h3, h4⟩
      · exact ⟨ep, h2, .inl ⟨h1, rfl⟩⟩
      · exact ⟨ep + 1, h4, .inr ⟨h1, rfl, h2, h3⟩⟩
    clear hi
    obtain ⟨ep2, hI2, hov⟩ := key
    have fc := pchk_fn x
    rw [chkP_0 hI2.ok] at fc
    have m1 := hI2.mnext
    have m2 := hI2.mfree
    have m3 := hI2.mtak
    have m4 := hI2.olen
    have m5 := hI2.tlen
    obtain ⟨b1, b2, b3, b4, b5, b6⟩ := hI2.gok.1
    have m6 := hI2.next
    have fq := outsq_fn x.mailbox.taken x.mailbox.taken
    rw [decT rfl] at fq
    have m7 : List.take x.mailbox.next.toNat (List.map (outputV false) out2) = List.map (outputV false) x.mailbox.taken := by
      rw [m1, Int.toNat_natCast, take_mapO, ← m3]
    rcases hov with ⟨rfl, rfl⟩ | ⟨rfl, rfl, e1, e2⟩
    · refine zst ?_
      (first | refine callD (fc) ?_ | refine callDw (fc) ?_); refine zev ?_
      refine zso ?_
      refine ev_lend [6, 8, 15] [(178, .bool false)] mixed rfl (by kernel_rfl) rfl ⟨?_, fun cx' => ?_⟩ ?_
      · (simp only [go_sem]; try (simp; done))
      · simp only [go_sem]
        refine zsx m7 ?_
        refine zcd (fq) ?_
        refine ev_goal ?_
        simp [slotV]
      · simp only [go_sem]
        refine zst ?_
        exact zn4 (hJ _ (⟨(x, g2, ep2, out2, gr2, K4, t + 1), hI2, hk4, c1⟩) (by first | omega | (dsimp only; omega) | (simp; omega))) hI2
    · have fs := gwq_fn x.gateway g2
      rw [decT e1] at fs
      refine zst ?_
      (first | refine callD (fc) ?_ | refine callDw (fc) ?_); refine zev ?_
      refine zso ?_
      (first | refine callD (fs) ?_ | refine callDw (fs) ?_); refine zev ?_
      refine zso ?_
      refine ev_lend [6, 8, 15] [(178, .bool false)] mixed rfl (by kernel_rfl) rfl ⟨?_, fun cx' => ?_⟩ ?_
      · (simp only [go_sem]; try (simp; done))
      · simp only [go_sem]
        refine zsx m7 ?_
        refine zcd (fq) ?_
        refine ev_goal ?_
        simp [slotV]
      · simp only [go_sem]
        refine zst ?_
        exact zn4 (hJ _ (⟨(x, g2, ep + 1, out2, gr2, K4, t + 1), hI2, hk4, c1⟩) (by first | omega | (dsimp only; omega) | (simp; omega))) hI2
  · intro J hJ
    have hF := hI.fit
    have hm : p.mailbox.taken.length ≤ 3518437208780 := by have := hI.tlen; omega
    have hol := hI.olen
    have k4 := dkx_le hk3
    have k5 := dkx_le k4
    have hc : z = 0 ∨ z = 1 ∨ z = 2 ∨ z = 3 ∨ (z = 4 ∨ z = 5) ∨ (z = 6 ∨ z = 7) := by omega
    rcases hc with rfl | rfl | rfl | rfl | hz | hz
    · have fx := next_fn l K3 30 hk3 (by omega)
      have fy := next_fn l (dkx l K3) 30 k4 (by omega)
      have b0 := dnx_ge (l := l) (k := K3) (n := 30) (by omega)
      have b1 := dnx_lt (l := l) (k := K3) (n := 30) (by omega)
      have b2 := dnx_ge (l := l) (k := dkx l K3) (n := 30) (by omega)
      have b3 := dnx_lt (l := l) (k := dkx l K3) (n := 30) (by omega)
      have ft := ptear_fn p n (dnx l K3 30 - 1) (dnx l (dkx l K3) 30 - 1) hF
      have hI2 := hI.tear n (dnx l K3 30 - 1) (dnx l (dkx l K3) 30 - 1)
      generalize sTear p n (dnx l K3 30 - 1) (dnx l (dkx l K3) 30 - 1) = r at ft hI2
      obtain ⟨x, e⟩ := r
      dsimp only at ft hI2
      refine zst ?_
      refine zcm (fx) ?_
      refine zcm (fy) ?_
      refine zcd (ft) ?_
      exact znx 6 (hJ _ (⟨⟨x, g, out, gr, dkx l (dkx l K3), e, false⟩, k5, .inl ⟨rfl, hI2⟩⟩) (by first | omega | (dsimp only; omega) | (simp; omega))) (by refine ⟨rfl, by simp, ?_, ?_, ?_, ?_⟩ <;> first | rfl | (simp only [go_sem]; done) | (simp only [go_sem]; (repeat' (refine And.intro ?_ ?_)) <;> first | exact trivial | with_reducible rfl | rfl))
    · have ft := psnd_fn p hF hm
      have hI2 := hI.send
      generalize sSnd p = r at ft hI2
      obtain ⟨x, q, e⟩ := r
      dsimp only at ft hI2
      refine zst ?_
      refine zcd (ft) ?_
      exact znx 6 (hJ _ (⟨⟨x, g, out, gr, K3, e, false⟩, hk3, .inl ⟨rfl, hI2⟩⟩) (by first | omega | (dsimp only; omega) | (simp; omega))) (by refine ⟨rfl, by simp, ?_, ?_, ?_, ?_⟩ <;> first | rfl | (simp only [go_sem]; done) | (simp only [go_sem]; (repeat' (refine And.intro ?_ ?_)) <;> first | exact trivial | with_reducible rfl | rfl))
    · have fx := next_fn l K3 2 hk3 (by omega)
      have ft := pfail_fn p (dnx l K3 2) hF
      have hI2 := hI.fail (dnx l K3 2)
      generalize sFail p (dnx l K3 2) = r at ft hI2
      obtain ⟨x, e⟩ := r
      dsimp only at ft hI2
      refine zst ?_
      refine zcm (fx) ?_
      refine zcd (ft) ?_
      exact znx 6 (hJ _ (⟨⟨x, g, out, gr, dkx l K3, e, false⟩, k4, .inl ⟨rfl, hI2⟩⟩) (by first | omega | (dsimp only; omega) | (simp; omega))) (by refine ⟨rfl, by simp, ?_, ?_, ?_, ?_⟩ <;> first | rfl | (simp only [go_sem]; done) | (simp only [go_sem]; (repeat' (refine And.intro ?_ ?_)) <;> first | exact trivial | with_reducible rfl | rfl))
    · have fx := next_fn l K3 2 hk3 (by omega)
      have ft := pstart_fn p (dnx l K3 2) hF
      have hI2 := hI.start (dnx l K3 2)
      generalize sStart p (dnx l K3 2) = r at ft hI2
      obtain ⟨x, e⟩ := r
      dsimp only at ft hI2
      refine zst ?_
      refine zcm (fx) ?_
      refine zcd (ft) ?_
      exact znx 6 (hJ _ (⟨⟨x, g, out, gr, dkx l K3, e, false⟩, k4, .inl ⟨rfl, hI2⟩⟩) (by first | omega | (dsimp only; omega) | (simp; omega))) (by refine ⟨rfl, by simp, ?_, ?_, ?_, ?_⟩ <;> first | rfl | (simp only [go_sem]; done) | (simp only [go_sem]; (repeat' (refine And.intro ?_ ?_)) <;> first | exact trivial | with_reducible rfl | rfl))
    · have ft := ptick_fn p hF
      have hI2 := hI.tick
      generalize sTick p = r at ft hI2
      obtain ⟨x, b, e⟩ := r
      dsimp only at ft hI2
      rcases hz with rfl | rfl
      · refine zst ?_
        refine zcd (ft) ?_
        exact znx 6 (hJ _ (⟨⟨x, g, out, gr, K3, e, b⟩, hk3, hI2⟩) (by first | omega | (dsimp only; omega) | (simp; omega))) (by refine ⟨rfl, by simp, ?_, ?_, ?_, ?_⟩ <;> first | rfl | (simp only [go_sem]; done) | (simp only [go_sem]; (repeat' (refine And.intro ?_ ?_)) <;> first | exact trivial | with_reducible rfl | rfl))
      · refine zst ?_
        refine zcd (ft) ?_
        exact znx 6 (hJ _ (⟨⟨x, g, out, gr, K3, e, b⟩, hk3, hI2⟩) (by first | omega | (dsimp only; omega) | (simp; omega))) (by refine ⟨rfl, by simp, ?_, ?_, ?_, ?_⟩ <;> first | rfl | (simp only [go_sem]; done) | (simp only [go_sem]; (repeat' (refine And.intro ?_ ?_)) <;> first | exact trivial | with_reducible rfl | rfl))
    · have ft := pWr_fn p n hF
      by_cases c3 : (sWr p n).2 = 0
      rotate_left
      · have hx : (sWr p n).1 = p := by
          unfold sWr
          split
          · rfl
          · rename_i c4
            have : (sWr p n).2 = 0 := by unfold sWr; rw [if_neg c4]
            exact absurd this c3
        rw [hx] at ft
        generalize (sWr p n).2 = e at ft c3
        rcases hz with rfl | rfl
        · refine zst ?_
          refine zcd (ft) ?_
          exact znx 6 (hJ _ (⟨⟨p, g, out, gr, K3, e, false⟩, hk3, .inl ⟨rfl, hI⟩⟩) (by first | omega | (dsimp only; omega) | (simp; omega))) (by refine ⟨rfl, by simp, ?_, ?_, ?_, ?_⟩ <;> first | rfl | (simp only [go_sem]; done) | (simp only [go_sem]; (repeat' (refine And.intro ?_ ?_)) <;> first | exact trivial | with_reducible rfl | rfl))
        · refine zst ?_
          refine zcd (ft) ?_
          exact znx 6 (hJ _ (⟨⟨p, g, out, gr, K3, e, false⟩, hk3, .inl ⟨rfl, hI⟩⟩) (by first | omega | (dsimp only; omega) | (simp; omega))) (by refine ⟨rfl, by simp, ?_, ?_, ?_, ?_⟩ <;> first | rfl | (simp only [go_sem]; done) | (simp only [go_sem]; (repeat' (refine And.intro ?_ ?_)) <;> first | exact trivial | with_reducible rfl | rfl))
      have hI2 := hI.write n c3
      generalize sWr p n = r at ft hI2 c3
      obtain ⟨x, e⟩ := r
      dsimp only at ft hI2 c3
      subst c3
      have hh := hI2.gok.1.2.2.2.2.1
      have hix : ((x.gateway.held.length : Int) - 1).toNat = x.gateway.held.length - 1 := by omega
      by_cases c4 : x.gateway.next > g.next
      · by_cases c5 : 0 < x.gateway.held.length
        · rw [show outN out g x.gateway = out ++ [x.gateway.held[x.gateway.held.length - 1]!] from if_pos ⟨c4, c5⟩] at hI2
          have hsn : List.map (outputV false) out ++ [outputV false x.gateway.held[x.gateway.held.length - 1]!] = List.map (outputV false) (out ++ [x.gateway.held[x.gateway.held.length - 1]!]) := by simp
          rcases hz with rfl | rfl
          · refine zst ?_
            (first | refine callD (ft) ?_ | refine callDw (ft) ?_); refine zev ?_
            refine zsx hix ?_
            exact znx 6 (hJ _ (⟨⟨x, x.gateway, out ++ [x.gateway.held[x.gateway.held.length - 1]!], gr + 1, K3, 0, false⟩, hk3, .inl ⟨rfl, hI2⟩⟩) (by first | omega | (dsimp only; omega) | (simp; omega))) (by refine ⟨rfl, by simp, ?_, ?_, ?_, ?_⟩ <;> first | rfl | (simp only [go_sem]; done) | (simp only [go_sem]; (repeat' (refine And.intro ?_ ?_)) <;> first | exact trivial | with_reducible rfl | rfl))
          · refine zst ?_
            (first | refine callD (ft) ?_ | refine callDw (ft) ?_); refine zev ?_
            refine zsx hix ?_
            exact znx 6 (hJ _ (⟨⟨x, x.gateway, out ++ [x.gateway.held[x.gateway.held.length - 1]!], gr + 1, K3, 0, false⟩, hk3, .inl ⟨rfl, hI2⟩⟩) (by first | omega | (dsimp only; omega) | (simp; omega))) (by refine ⟨rfl, by simp, ?_, ?_, ?_, ?_⟩ <;> first | rfl | (simp only [go_sem]; done) | (simp only [go_sem]; (repeat' (refine And.intro ?_ ?_)) <;> first | exact trivial | with_reducible rfl | rfl))
        · rw [show outN out g x.gateway = out from if_neg (fun h => c5 h.2)] at hI2
          rcases hz with rfl | rfl
          · refine zst ?_
            refine zcd (ft) ?_
            exact znx 6 (hJ _ (⟨⟨x, x.gateway, out, gr, K3, 0, false⟩, hk3, .inl ⟨rfl, hI2⟩⟩) (by first | omega | (dsimp only; omega) | (simp; omega))) (by refine ⟨rfl, by simp, ?_, ?_, ?_, ?_⟩ <;> first | rfl | (simp only [go_sem]; done) | (simp only [go_sem]; (repeat' (refine And.intro ?_ ?_)) <;> first | exact trivial | with_reducible rfl | rfl))
          · refine zst ?_
            refine zcd (ft) ?_
            exact znx 6 (hJ _ (⟨⟨x, x.gateway, out, gr, K3, 0, false⟩, hk3, .inl ⟨rfl, hI2⟩⟩) (by first | omega | (dsimp only; omega) | (simp; omega))) (by refine ⟨rfl, by simp, ?_, ?_, ?_, ?_⟩ <;> first | rfl | (simp only [go_sem]; done) | (simp only [go_sem]; (repeat' (refine And.intro ?_ ?_)) <;> first | exact trivial | with_reducible rfl | rfl))
      · rw [show outN out g x.gateway = out from if_neg (fun h => c4 h.1)] at hI2
        rcases hz with rfl | rfl
        · refine zst ?_
          refine zcd (ft) ?_
          exact znx 6 (hJ _ (⟨⟨x, x.gateway, out, gr, K3, 0, false⟩, hk3, .inl ⟨rfl, hI2⟩⟩) (by first | omega | (dsimp only; omega) | (simp; omega))) (by refine ⟨rfl, by simp, ?_, ?_, ?_, ?_⟩ <;> first | rfl | (simp only [go_sem]; done) | (simp only [go_sem]; (repeat' (refine And.intro ?_ ?_)) <;> first | exact trivial | with_reducible rfl | rfl))
        · refine zst ?_
          refine zcd (ft) ?_
          exact znx 6 (hJ _ (⟨⟨x, x.gateway, out, gr, K3, 0, false⟩, hk3, .inl ⟨rfl, hI2⟩⟩) (by first | omega | (dsimp only; omega) | (simp; omega))) (by refine ⟨rfl, by simp, ?_, ?_, ?_, ?_⟩ <;> first | rfl | (simp only [go_sem]; done) | (simp only [go_sem]; (repeat' (refine And.intro ?_ ?_)) <;> first | exact trivial | with_reducible rfl | rfl))
theorem sonce_law {a0 : List Int} {v0 : Value} (W : World) (e0 : (Sh.slice (Sh.int .i64)).rd (old W) W a0 [v0]) :
    Calls Try.prog 6 #[v0] W fun e w' => e = .returned (.bool true) ∧ Below W.heap.size W w' :=
  Fnc.law (sonce_fn a0) (RdTs.slice enc_i64s e0 RdTs.nil')
end Go.Proofs.Ytdpfglkjhdnbbaa
