/- The law GatewayOnce. -/
import Derived.Test.YtdjjhajkpfiagaaH10
import Derived.Test.YtdjjhajkpfiagaaC5
namespace Go.Proofs.Ytdjjhajkpfiagaa
open Go Go.RowKit Rdn Rdn.Dp
set_option linter.unusedVariables false
set_option linter.unusedSimpArgs false
theorem m_once_ok : compF Try.prog 7 = some (180, Qr ([Qc 2 (.bool false)])
 (.seq (Qr ([Qm 22 0, Qq 23 12 [(.t 22)], Qp 24 (.un .not (.t 23))])
 (.cond (.t 24) (Qr ([Qq 25 22 [], Qm 2 25])
 (.ret)) (.skip)))
 (Qr ([Qm 26 0, Qq 27 15 [(.t 26)], Qm 3 27])
 (Qr ([Qw 28 (.build none [.int .i64 0, .int .i64 0, .int .i64 0, .nilS] []), Qw 29 (.buildS 44 4 (.agg [.int .i64 0, .int .i64 0, .int .i64 0, .nilS]) 1 [(0, (.t 28))]), Qm 4 29])
 (Qr ([Qw 5 (.alloc 47 (.agg [.int .i64 0, .int .i64 0, .nilS]))])
 (Qr ([Qp 6 (.mov (.c (.nilS)))])
 (Qr ([Qp 7 (.mov (Qi 0))])
 (.seq (Qr ([Qp 8 (.mov (Qi 0))])
 (.block 0 (.loop (.seq (Qr ([Qm 30 8, Qk 31 .lss 30 60, Qm 32 31, Q1 33 32 (.mov (.t 3)), ⟨(some 34), (some (32, true)), (.call 25 [(.t 33)])⟩, Qu 35 32 34])
 (.cond (.t 35) (.skip) (.exit 0)))
 (.seq (.block 1 (Qr ([Qm 38 4, Qn 39 38, Qk 40 .sub 39 1, Qm 9 40])
 (.seq (Qr ([Qm 41 3, Qq 42 26 [(.t 41), (Qi 5)]])
 (.block 2 (.seq (Qr ([Qk 73 .eql 42 0, Qm 72 73])
 (.cond (.t 72) (.skip) (.reg [Qk 74 .eql 42 1, Qm 72 74])))
 (.cond (.t 72) (Qr ([Qm 75 3, Qq 76 27 [(.t 75), (Qi 3)], Qm 10 76])
 (Qr ([Qm 78 4, Qm 79 9, Qx 80 4 78 79, QL 81 4 80, Qm 82 8, Qk 83 .rem 82 2, Qm 84 10, Qq 85 32 [(.t 81), (.t 83), (.t 84)], Qm 77 85, Qe 86 77 0, Qe 87 77 1, Qe 88 77 2, Qw 11 (.alloc 44 (.agg [.int .i64 0, .int .i64 0, .int .i64 0, .nilS])), Qs 4 11 86, Qm 12 87, Qm 13 88])
 (.seq (Qr ([Qm 89 13, Qk 90 .neq 89 0, Qm 91 90, Q0 92 91 (.mov (.t 12)), Q0 93 91 (.mov (.t 6)), Q0 94 91 (.len (.t 93)), Q0 95 91 (.bin 0 .neq (.t 92) (.t 94)), Qt 96 91 95])
 (.cond (.t 96) (Qr ([Qc 2 (.bool false)])
 (.ret)) (.skip)))
 (Qr ([Qm 97 6, Qm 98 12, Qm 99 8, Qk 100 .rem 99 2, Qm 101 10, Qw 102 (.build none [.int .i64 0, .int .i64 0, .nilS] [(0, (.t 98)), (1, (.t 100)), (2, (.t 101))]), Qw 103 (.buildS 49 3 (.agg [.int .i64 0, .int .i64 0, .nilS]) 1 [(0, (.t 102))]), Qw 104 (.app 49 3 40 (.t 97) (.t 103)), Qm 6 104])
 (.reg [Qm 105 4, QL 106 4 11, Qw 107 (.buildS 44 4 (.agg [.int .i64 0, .int .i64 0, .int .i64 0, .nilS]) 1 [(0, (.t 106))]), Qw 108 (.app 44 4 48 (.t 105) (.t 107)), Qm 4 108]))))) (Qr ([Qk 110 .eql 42 2, Qm 109 110])
 (.cond (.t 109) (Qr ([Qm 111 7, Qm 112 3, Qm 113 6, Qn 114 113, Qm 115 7, Qb 116 .sub 114 115, Qk 117 .add 116 1, Qq 118 26 [(.t 112), (.t 117)], Qb 119 .add 111 118, Qm 14 119])
 (Qr ([Qm 121 4, Qm 122 9, Qx 123 4 121 122, QL 124 4 123, Qm 125 14, Qq 126 33 [(.t 124), (.t 125)], Qm 120 126, Qe 127 120 0, Qe 128 120 1, Qw 15 (.alloc 44 (.agg [.int .i64 0, .int .i64 0, .int .i64 0, .nilS])), Qs 4 15 127, Qm 16 128])
 (.seq (Qr ([Qm 129 16, Qk 130 .neq 129 0])
 (.cond (.t 130) (Qr ([Qc 2 (.bool false)])
 (.ret)) (.skip)))
 (.reg [Qm 131 4, QL 132 4 15, Qw 133 (.buildS 44 4 (.agg [.int .i64 0, .int .i64 0, .int .i64 0, .nilS]) 1 [(0, (.t 132))]), Qw 134 (.app 44 4 48 (.t 131) (.t 133)), Qm 135 14, Qm 4 134, Qm 7 135])))) (Qr ([Qk 137 .eql 42 3, Qm 136 137])
 (.cond (.t 136) (.seq (.dreg [Qm 139 4, Qm 140 9, Qx 141 4 139 140, QL 142 4 141, Qf 143 0 0 5, Ql 144 1 143, Qq 145 34 [(.t 142), (.t 144)], Qm 138 145, Qe 146 138 0, Qe 147 138 1, Qw 17 (.alloc 44 (.agg [.int .i64 0, .int .i64 0, .int .i64 0, .nilS])), Qs 4 17 146, Qm 18 147] [[], [], [0, 1], [0, 1, 2], [], [4], [0, 1, 2, 3, 4, 5], [0, 1, 2, 3, 4, 5, 6], [0, 1, 2, 3, 4, 5, 6, 7], [0, 1, 2, 3, 4, 5, 6, 7], [], [0, 1, 2, 3, 4, 5, 6, 7, 8, 10], [0, 1, 2, 3, 4, 5, 6, 7, 8, 9, 10, 11]])
 (.seq (Qr ([Qm 148 18, Qk 149 .neq 148 0])
 (.cond (.t 149) (Qr ([Qc 2 (.bool false)])
 (.ret)) (.skip)))
 (.reg [Qm 150 4, QL 151 4 17, Qw 152 (.buildS 44 4 (.agg [.int .i64 0, .int .i64 0, .int .i64 0, .nilS]) 1 [(0, (.t 151))]), Qw 153 (.app 44 4 48 (.t 150) (.t 152)), Qm 4 153]))) (Qr ([Qm 44 4, Qm 45 3, Qm 46 4, Qn 47 46, Qq 48 26 [(.t 45), (.t 47)], Qx 49 4 44 48, QL 50 4 49, Qq 51 35 [(.t 50)], Qm 43 51, Qe 52 43 0, Qe 53 43 1, Qm 19 52, Qm 20 53])
 (.seq (Qr ([Qp 21 (.mov (Qi 0))])
 (.block 3 (.loop (.seq (Qr ([Qm 54 21, Qm 55 19, Qn 56 55, Qb 57 .lss 54 56])
 (.cond (.t 57) (.skip) (.exit 3)))
 (.seq (.block 4 (.dreg [QL 61 3 5, Qm 62 19, Qm 63 21, Qx 64 3 62 63, QL 65 3 64, Qq 66 36 [(.t 61), (Qi 1), (.t 65)], Qm 60 66, Qe 67 60 0, Qe 68 60 1, Qe 69 60 2, Qs 3 5 67] [[], [], [], [1, 2], [1, 2, 3], [0, 1, 2, 3, 4], [0, 1, 2, 3, 4, 5], [0, 1, 2, 3, 4, 5, 6], [0, 1, 2, 3, 4, 5, 6], [0, 1, 2, 3, 4, 5, 6], [0, 1, 2, 3, 4, 5, 6, 7]]))
 (.reg [Qm 58 21, Qk 59 .add 58 1, Qm 21 59]))))))
 (Qr ([Qm 70 20, Qk 71 .neq 70 0])
 (.cond (.t 71) (Qr ([Qc 2 (.bool false)])
 (.ret)) (.skip)))))))))))))
 (.seq (.dreg [Qf 154 0 0 5, Ql 155 1 154, Qm 156 7, Qb 157 .gtr 155 156, Qm 158 157, Q0 159 158 (.fieldA 2 2 (.t 5)), Q0 160 158 (.load false 1 (.t 159)), Q0 161 158 (.len (.t 160)), Q0 162 158 (.fieldA 0 0 (.t 5)), Q0 163 158 (.load false 1 (.t 162)), Q0 164 158 (.bin 0 .neq (.t 161) (.t 163)), Qt 165 158 164, Qm 166 165, Q0 167 166 (.fieldA 2 2 (.t 5)), Q0 168 166 (.load false 1 (.t 167)), Q0 169 166 (.mov (.t 6)), Q0 170 166 (.fieldA 0 0 (.t 5)), Q0 171 166 (.load false 1 (.t 170)), ⟨(some 172), (some (166, false)), (.m (.sl 3 (.t 169) none (some (.t 171)) none))⟩, ⟨(some 173), (some (166, false)), (.call 37 [(.t 168), (.t 172)])⟩, Q0 174 166 (.un .not (.t 173)), Qt 175 166 174] [[], [0], [], [0, 1, 2], [0, 1, 2, 3], [0, 1, 2, 3, 4], [0, 1, 2, 3, 4, 5], [0, 1, 2, 3, 4, 5, 6], [0, 1, 2, 3, 4], [0, 1, 2, 3, 4, 8], [0, 1, 2, 3, 4, 5, 6, 7, 8, 9], [0, 1, 2, 3, 4, 5, 6, 7, 8, 9, 10], [0, 1, 2, 3, 4, 5, 6, 7, 8, 9, 10, 11], [0, 1, 2, 3, 4, 5, 6, 7, 8, 9, 10, 11, 12], [0, 1, 2, 3, 4, 5, 6, 7, 8, 9, 10, 11, 12, 13], [0, 1, 2, 3, 4, 5, 6, 7, 8, 9, 10, 11, 12], [0, 1, 2, 3, 4, 5, 6, 7, 8, 9, 10, 11, 12], [0, 1, 2, 3, 4, 5, 6, 7, 8, 9, 10, 11, 12, 16], [0, 1, 2, 3, 4, 5, 6, 7, 8, 9, 10, 11, 12, 15, 16, 17], [0, 1, 2, 3, 4, 5, 6, 7, 8, 9, 10, 11, 12, 13, 14, 15, 16, 17, 18], [0, 1, 2, 3, 4, 5, 6, 7, 8, 9, 10, 11, 12, 13, 14, 15, 16, 17, 18, 19], [0, 1, 2, 3, 4, 5, 6, 7, 8, 9, 10, 11, 12, 13, 14, 15, 16, 17, 18, 19, 20]])
 (.cond (.t 175) (Qr ([Qc 2 (.bool false)])
 (.ret)) (.skip))))))
 (.reg [Qm 36 8, Qk 37 .add 36 1, Qm 8 37]))))))
 (Qr ([Qq 176 38 [(.c (.nilS)), (.c (.nilS))], Qm 177 176, ⟨(some 178), (some (177, true)), (.call 22 [])⟩, Qu 179 177 178, Qm 2 179])
 (.ret))))))))), [.mov (.t 2)]) := by kernel_rfl
theorem gw0 : SubV (.agg [.int .i64 0, .int .i64 0, .int .i64 0, .nilS]) (.agg (gwL false ⟨0, 0, 0, []⟩)) := SubV.agg ⟨SubV.refl _, SubV.refl _, SubV.refl _, SubV.nil _ _, trivial⟩
theorem mb0 : SubV (.agg [.int .i64 0, .int .i64 0, .nilS]) (.agg (mbL false ⟨0, 0, []⟩)) := SubV.agg ⟨SubV.refl _, SubV.refl _, SubV.nil _ _, trivial⟩
instance : Inhabited Gateway := ⟨⟨0, 0, 0, []⟩⟩
abbrev gwV (g : Gateway) : V := .agg (gwL false g)
instance : Lo gwV gwV := ⟨fun g => by simp [V.pure, V.pures, pures_lo], fun g => by simp [V.low, V.lows, lows_lo]⟩
/-- Where the run stands. -/
structure RunS where
  gs : List Gateway
  W : List Output
  F : Nat
  M : Nat
  e : Int
  k : Nat
  t : Nat
  n : Nat
structure RunOk (l : List Int) (p : RunS) : Prop where
  gl : p.gs.length = p.n + 1
  nt : p.n ≤ p.t
  old : ∀ j, j < p.gs.length → OldG p.W p.F p.M p.gs[j]!
  new : NewG p.W p.F p.M p.gs[p.n]!
  W : WOk p.W
  Wt : p.W.length ≤ p.t
  FW : p.F ≤ p.W.length
  MF : p.M ≤ p.F
  e0 : p.e ≤ 1
  k : p.k ≤ l.length
  t : p.t ≤ 60
theorem app_old {gs : List Gateway} {g' : Gateway} {n : Nat} {P Q : Gateway → Prop} (hl : gs.length = n + 1) (h : ∀ j, j < gs.length → P gs[j]!) (hp : ∀ g, P g → Q g) (h' : Q g') (j : Nat) (hj : j < (gs ++ [g']).length) : Q (gs ++ [g'])[j]! := by
  rw [List.length_append] at hj
  simp only [List.length_cons, List.length_nil] at hj
  by_cases e : j < gs.length
  · rw [getElem!_pos _ j (by rw [List.length_append]; simp; omega), List.getElem_append_left e, ← getElem!_pos gs j e]
    exact hp _ (h j e)
  · obtain rfl : j = gs.length := by omega
    rw [getElem!_pos _ _ (by rw [List.length_append]; simp), List.getElem_append_right (Nat.le_refl _)]
    simpa using h'
theorem app_new {gs : List Gateway} {g' : Gateway} {n : Nat} (hl : gs.length = n + 1) : (gs ++ [g'])[n + 1]! = g' := by
  rw [← hl, getElem!_pos _ _ (by rw [List.length_append]; simp), List.getElem_append_right (Nat.le_refl _)]
  simp
attribute [local go_sem] take_mapO
attribute [local irreducible] sOff sFree sSend sAck sTake dcs gw
set_option maxHeartbeats 16000000 in
theorem once_fn (l : List Int) : Fnc Try.prog 7 [.sl false 1 (i64s l)] (fun x obs => x = .bool true) := by
  have ff := few_fn l
  have fc := cellsq_fn []
  have fa := awake38_fn
  by_cases h1 : l.length ≤ 400
  rotate_left
  · rw [decF h1] at ff
    refine zgo m_once_ok fun W S => ?_
    refine zcd (ff) ?_
    refine zcd (fa) ?_
    exact zrt m_once_ok
  rw [decT h1] at ff
  refine zgo m_once_ok fun W S => ?_
  refine zcd (ff) ?_
  refine zcx (new_fn l) ?_
  refine ev_rowSub 1 [gwV ⟨0, 0, 0, []⟩] rfl ⟨gw0, trivial⟩ rfl (fun y hy => by simp at hy; subst hy; rfl) ?_
  refine ev_obSub 2 _ rfl mb0 rfl ?_
  refine ev_adopt (i := 6) (e := 49) (s := 3) rfl (by decide) ?_
  have h0 : RunOk l ⟨[⟨0, 0, 0, []⟩], [], 0, 0, 0, 0, 0, 0⟩ := by
    have hg : gw [] 0 0 0 = ⟨0, 0, 0, []⟩ := by unfold gw; rfl
    refine ⟨rfl, Nat.le_refl _, fun j hj => ?_, ⟨0, hg.symm, Nat.le_refl _, Nat.le_refl _⟩, ⟨by decide, fun j hj => absurd hj (Nat.not_lt_zero j)⟩, Nat.le_refl _, Nat.le_refl _, Nat.le_refl _, by decide, Nat.zero_le _, by decide⟩
    obtain rfl : j = 0 := by simp at hj; omega
    exact ⟨0, 0, 0, hg.symm, Nat.le_refl _, Nat.le_refl _, Nat.le_refl _, Nat.le_refl _, Nat.le_refl _⟩
  refine ev_loopK [3, 5] (fun p : {p : RunS // RunOk l p} => [(4, .own 1 p.1.n), (6, .own 3 p.1.W.length), (7, .int .i64 p.1.F), (8, .int .i64 p.1.t)]) (fun p => [⟨.box false 77, true, 0, deckV l p.1.k⟩, ⟨.row 44, true, p.1.n, .arr 4 (p.1.gs.map gwV)⟩, ⟨.box false 47, true, 0, .agg [.int .i64 p.1.M, .int .i64 p.1.e, .sl false 3 ((p.1.W.take p.1.M).map (outputV false))]⟩, ⟨.row 49, true, p.1.W.length, .arr 3 (p.1.W.map (outputV false))⟩]) (fun p => 60 - p.1.t) (⟨_, h0⟩) 4 (by simp only [go_sem]; rfl) ?_ (by first | rfl | (simp only [go_sem]; done)) (by simp) (by first | rfl | (simp only [go_sem]; done)) (by first | rfl | (simp only [go_sem]; done)) (by first | rfl | (simp only [go_sem]; done)) ?_
  · (simp only [go_sem]; (try simp []); done)
  intro J hJ
  rintro ⟨⟨gs, W, F, M, e, k, t, n⟩, H⟩
  have hgl := H.gl
  have hnt := H.nt
  have hold := H.old
  have hnew := H.new
  have hW := H.W
  have hWt := H.Wt
  have hFW := H.FW
  have hMF := H.MF
  have he := H.e0
  have hk := H.k
  have ht := H.t
  dsimp only at hgl hnt hold hnew hW hWt hFW hMF he hk ht ⊢
  have fl := left_fn l k hk
  have hgn : (gs.length : Int) - 1 = n := by omega
  by_cases c1 : t < 60
  rotate_left
  · skip
    refine zst ?_
    refine zcd (fc) ?_
    refine zcd (fa) ?_
    exact zrt m_once_ok
  by_cases c2 : k < l.length
  rotate_left
  · rw [decF c2] at fl
    refine zst ?_
    refine zcm (fl) ?_
    refine zcd (fc) ?_
    refine zcd (fa) ?_
    exact zrt m_once_ok
  rw [decT c2] at fl
  have fn := next_fn l k 5 hk (by omega)
  have b1 := dnx_ge (l := l) (k := k) (n := 5) (by omega)
  have b2 := dnx_lt (l := l) (k := k) (n := 5) (by omega)
  have hk1 := dkx_le hk
  have hc : dnx l k 5 = 0 ∨ dnx l k 5 = 1 ∨ dnx l k 5 = 2 ∨ dnx l k 5 = 3 ∨ dnx l k 5 = 4 := by omega
  generalize dnx l k 5 = z at fn hc
  generalize dkx l k = K at fn hk1
  rcases hc with rfl | rfl | rfl | rfl | rfl
  · skip
    have fd := canons_sl l K 3 hk1 (by omega) (by omega)
    have hk2 := dcs_le hk1 3
    have hd3 := dcs_len (l := l) (k := K) (n := 3) (by omega)
    generalize dcs l K 3 = D at fd hk2 hd3
    have t0 := Int.emod_nonneg (t : Int) (show (2 : Int) ≠ 0 by decide)
    have t1 := Int.emod_lt_of_pos (t : Int) (show (0 : Int) < 2 by decide)
    have fo := woff_fn gs[n]! ((t : Int) % 2) D.1 (hnew.old hFW |>.ok hW).fit
    obtain ⟨g', eo, hn'⟩ := new_off hnew hW hFW (by omega) t0 t1 (d := D.1) (by omega)
    rw [eo] at fo
    have fq := outsq_fn (W.take M)
    have htk : (W ++ [(⟨W.length, (t : Int) % 2, D.1⟩ : Output)]).take M = W.take M := List.take_append_of_le_length (by omega)
    have htl : (W.take M).length = M := by rw [List.length_take]; omega
    have hwl : (W ++ [(⟨W.length, (t : Int) % 2, D.1⟩ : Output)]).length = W.length + 1 := by rw [List.length_append]; rfl
    have hsn : gs.map gwV ++ [V.agg (gwL false g')] = (gs ++ [g']).map gwV := by rw [List.map_append]; rfl
    have hR : RunOk l ⟨gs ++ [g'], W ++ [⟨W.length, (t : Int) % 2, D.1⟩], F, M, e, D.2, t + 1, n + 1⟩ := by
      refine ⟨by rw [List.length_append, hgl]; rfl, by dsimp only; omega, fun j hj => ?_, ?_, hW.snoc (by omega) t0 t1 (by omega), by rw [hwl]; dsimp only; omega, by rw [hwl]; dsimp only; omega, hMF, he, hk2, by dsimp only; omega⟩
      · exact app_old hgl hold (fun g h => h.snoc) (hn'.old (by rw [hwl]; omega)) j hj
      · exact app_new hgl ▸ hn'
    refine zst ?_
    refine zcm (fl) ?_
    refine zcm (fn) ?_
    refine Rdn.Dp.zcn (fd) ?_
    refine zsx hgn ?_
    (first | refine callD (fo) ?_ | refine callDw (fo) ?_); refine zev ?_
    refine zso ?_
    refine ev_lend [5, 6, 7] [(175, .bool false)] mixed rfl (by kernel_rfl) rfl ⟨?_, fun cx' => ?_⟩ ?_
    · (simp only [go_sem]; try (simp; done))
    · simp only [go_sem]
      refine zsx (And.intro htl (And.intro htk (hwl))) ?_
      refine zcd (fq) ?_
      refine ev_goal ?_
      simp [slotV]
    · simp only [go_sem]
      refine zst ?_
      exact zn4 (hJ _ (⟨_, hR⟩) (by first | omega | (dsimp only; omega) | (simp; omega))) (And.intro hsn (And.intro htk (hwl)))
  · skip
    have fd := canons_sl l K 3 hk1 (by omega) (by omega)
    have hk2 := dcs_le hk1 3
    have hd3 := dcs_len (l := l) (k := K) (n := 3) (by omega)
    generalize dcs l K 3 = D at fd hk2 hd3
    have t0 := Int.emod_nonneg (t : Int) (show (2 : Int) ≠ 0 by decide)
    have t1 := Int.emod_lt_of_pos (t : Int) (show (0 : Int) < 2 by decide)
    have fo := woff_fn gs[n]! ((t : Int) % 2) D.1 (hnew.old hFW |>.ok hW).fit
    obtain ⟨g', eo, hn'⟩ := new_off hnew hW hFW (by omega) t0 t1 (d := D.1) (by omega)
    rw [eo] at fo
    have fq := outsq_fn (W.take M)
    have htk : (W ++ [(⟨W.length, (t : Int) % 2, D.1⟩ : Output)]).take M = W.take M := List.take_append_of_le_length (by omega)
    have htl : (W.take M).length = M := by rw [List.length_take]; omega
    have hwl : (W ++ [(⟨W.length, (t : Int) % 2, D.1⟩ : Output)]).length = W.length + 1 := by rw [List.length_append]; rfl
    have hsn : gs.map gwV ++ [V.agg (gwL false g')] = (gs ++ [g']).map gwV := by rw [List.map_append]; rfl
    have hR : RunOk l ⟨gs ++ [g'], W ++ [⟨W.length, (t : Int) % 2, D.1⟩], F, M, e, D.2, t + 1, n + 1⟩ := by
      refine ⟨by rw [List.length_append, hgl]; rfl, by dsimp only; omega, fun j hj => ?_, ?_, hW.snoc (by omega) t0 t1 (by omega), by rw [hwl]; dsimp only; omega, by rw [hwl]; dsimp only; omega, hMF, he, hk2, by dsimp only; omega⟩
      · exact app_old hgl hold (fun g h => h.snoc) (hn'.old (by rw [hwl]; omega)) j hj
      · exact app_new hgl ▸ hn'
    refine zst ?_
    refine zcm (fl) ?_
    refine zcm (fn) ?_
    refine Rdn.Dp.zcn (fd) ?_
    refine zsx hgn ?_
    (first | refine callD (fo) ?_ | refine callDw (fo) ?_); refine zev ?_
    refine zso ?_
    refine ev_lend [5, 6, 7] [(175, .bool false)] mixed rfl (by kernel_rfl) rfl ⟨?_, fun cx' => ?_⟩ ?_
    · (simp only [go_sem]; try (simp; done))
    · simp only [go_sem]
      refine zsx (And.intro htl (And.intro htk (hwl))) ?_
      refine zcd (fq) ?_
      refine ev_goal ?_
      simp [slotV]
    · simp only [go_sem]
      refine zst ?_
      exact zn4 (hJ _ (⟨_, hR⟩) (by first | omega | (dsimp only; omega) | (simp; omega))) (And.intro hsn (And.intro htk (hwl)))
  · skip
    have v0 := dnx_ge (l := l) (k := K) (n := (W.length : Int) - F + 1) (by omega)
    have v1 := dnx_lt (l := l) (k := K) (n := (W.length : Int) - F + 1) (by omega)
    have fv := next_fn l K ((W.length : Int) - F + 1) hk1 (by omega)
    have hk2 := dkx_le hk1
    generalize dkx l K = K2 at fv hk2
    obtain ⟨v, hv⟩ := Int.eq_ofNat_of_zero_le v0
    rw [hv] at fv v1
    have fo := wfree_fn gs[n]! ((F + v : Nat) : Int) (hnew.old hFW |>.ok hW).fit
    obtain ⟨g', eo, hn'⟩ := new_free (n := F + v) hnew hW (by omega) (by omega)
    rw [eo] at fo
    have hfv : (F : Int) + (v : Int) = ((F + v : Nat) : Int) := by omega
    have fq := outsq_fn (W.take M)
    have htl : (W.take M).length = M := by rw [List.length_take]; omega
    have hsn : gs.map gwV ++ [V.agg (gwL false g')] = (gs ++ [g']).map gwV := by rw [List.map_append]; rfl
    have hR : RunOk l ⟨gs ++ [g'], W, F + v, M, e, K2, t + 1, n + 1⟩ := by
      refine ⟨by rw [List.length_append, hgl]; rfl, by dsimp only; omega, fun j hj => ?_, ?_, hW, by dsimp only; omega, by dsimp only; omega, by dsimp only; omega, he, hk2, by dsimp only; omega⟩
      · exact app_old hgl hold (fun g h => h.mono (by omega) (Nat.le_refl _)) (hn'.old (by omega)) j hj
      · exact app_new hgl ▸ hn'
    refine zst ?_
    refine zcm (fl) ?_
    refine zcm (fn) ?_
    refine Rdn.Dp.zcn (fv) ?_
    refine zsx (And.intro hgn (hfv)) ?_
    (first | refine callD (fo) ?_ | refine callDw (fo) ?_); refine zev ?_
    refine zso ?_
    refine ev_lend [5, 6, 7] [(175, .bool false)] mixed rfl (by kernel_rfl) rfl ⟨?_, fun cx' => ?_⟩ ?_
    · (simp only [go_sem]; try (simp; done))
    · simp only [go_sem]
      refine zsx htl ?_
      refine zcd (fq) ?_
      refine ev_goal ?_
      simp [slotV]
    · simp only [go_sem]
      refine zst ?_
      exact zn4 (hJ _ (⟨_, hR⟩) (by first | omega | (dsimp only; omega) | (simp; omega))) hsn
  · skip
    have fo := wack_fn gs[n]! M (hnew.old hFW |>.ok hW).fit
    obtain ⟨g', eo, hn'⟩ := new_ack hnew hW hMF hFW
    rw [eo] at fo
    have fq := outsq_fn (W.take M)
    have htl : (W.take M).length = M := by rw [List.length_take]; omega
    have hsn : gs.map gwV ++ [V.agg (gwL false g')] = (gs ++ [g']).map gwV := by rw [List.map_append]; rfl
    have hR : RunOk l ⟨gs ++ [g'], W, F, M, e, K, t + 1, n + 1⟩ := by
      refine ⟨by rw [List.length_append, hgl]; rfl, by dsimp only; omega, fun j hj => ?_, ?_, hW, by dsimp only; omega, hFW, hMF, he, hk1, by dsimp only; omega⟩
      · exact app_old hgl hold (fun g h => h) (hn'.old hFW) j hj
      · exact app_new hgl ▸ hn'
    refine zst ?_
    refine zcm (fl) ?_
    refine Rdn.Dp.zcn (fn) ?_
    refine zsx hgn ?_
    (first | refine callD (fo) ?_ | refine callDw (fo) ?_); refine zev ?_
    refine zso ?_
    refine ev_lend [5, 6, 7] [(175, .bool false)] mixed rfl (by kernel_rfl) rfl ⟨?_, fun cx' => ?_⟩ ?_
    · (simp only [go_sem]; try (simp; done))
    · simp only [go_sem]
      refine zsx htl ?_
      refine zcd (fq) ?_
      refine ev_goal ?_
      simp [slotV]
    · simp only [go_sem]
      refine zst ?_
      exact zn4 (hJ _ (⟨_, hR⟩) (by first | omega | (dsimp only; omega) | (simp; omega))) hsn
  · skip
    have v0 := dnx_ge (l := l) (k := K) (n := gs.length) (by omega)
    have v1 := dnx_lt (l := l) (k := K) (n := gs.length) (by omega)
    have fv := next_fn l K gs.length hk1 (by omega)
    have hk2 := dkx_le hk1
    generalize dkx l K = K2 at fv hk2
    obtain ⟨v, hv⟩ := Int.eq_ofNat_of_zero_le v0
    rw [hv] at fv v1
    have fo := wsend_fn gs[v]!
    obtain ⟨a, f, eo, s1, s2, s3, s4⟩ := old_send (hold v (by omega)) hW
    rw [eo] at fo
    have hol : ((W.take f).drop a).length = f - a := by rw [List.length_drop, List.length_take]; omega
    obtain ⟨out, hout⟩ : ∃ out, (W.take f).drop a = out := ⟨_, rfl⟩
    rw [hout] at fo hol
    have hoi : ∀ i, i < f - a → out[i]! = W[a + i]! := fun i hi => by
      rw [← hout, getElem!_pos _ i (by rw [List.length_drop, List.length_take]; omega), getElem!_pos W (a + i) (by omega), List.getElem_drop, List.getElem_take]
    refine zst ?_
    refine zcm (fl) ?_
    refine zcm (fn) ?_
    refine zcm (fv) ?_
    refine zcd (fo) ?_
    have hJ0 := hJ
    refine ev_loopK [3, 4, 5, 6, 7, 8, 19, 20] (fun p : {p : Nat × Nat × Int // p.1 ≤ f - a ∧ M ≤ p.2.1 ∧ a + p.1 ≤ p.2.1 ∧ p.2.1 ≤ F ∧ p.2.2 ≤ 1} => [(21, .int .i64 p.1.1)]) (fun p => [⟨.box false 77, true, 0, deckV l K2⟩, ⟨.row 44, true, n, .arr 4 (gs.map gwV)⟩, ⟨.box false 47, true, 0, .agg [.int .i64 p.1.2.1, .int .i64 p.1.2.2, .sl false 3 ((W.take p.1.2.1).map (outputV false))]⟩, ⟨.row 49, true, W.length, .arr 3 (W.map (outputV false))⟩]) (fun p => f - a - p.1.1) (⟨(0, M, e), by simp, Nat.le_refl _, s3, hMF, he⟩) 4 (by simp only [go_sem]; rfl) ?_ (by first | rfl | (simp only [go_sem]; done)) (by simp) (by first | rfl | (simp only [go_sem]; done)) (by first | rfl | (simp only [go_sem]; done)) (by first | rfl | (simp only [go_sem]; done)) ?_
    · (simp only [go_sem]; (try simp []); done)
    intro J hJ
    rintro ⟨⟨i, M2, e2⟩, i1, i2, i3, i4, i5⟩
    dsimp only at i1 i2 i3 i4 i5 ⊢
    by_cases hlt : i < f - a
    · have ho := hoi i hlt
      have ft := wtake_fn (mb W M2 e2) 1 W[a + i]! (mb_fit hW) (by have := hW.data (j := a + i) (by omega); omega)
      generalize (sTake (mb W M2 e2) 1 W[a + i]!).2.1 = x1 at ft
      generalize (sTake (mb W M2 e2) 1 W[a + i]!).2.2 = x2 at ft
      rw [mb_take (j := a + i) hW i5 (by omega) (by omega) (by omega)] at ft
      dsimp only [mbL, mb] at ft
      refine zsx ho ?_
      refine zcd (ft) ?_
      exact zn4 (hJ _ (⟨(i + 1, max M2 (a + i + 1), 1), hlt, by dsimp only; omega, by dsimp only; omega, by dsimp only; omega, Int.le_refl _⟩) (by first | omega | (dsimp only; omega) | (simp; omega))) ho
    · obtain rfl : i = f - a := by omega
      have hJ := hJ0
      have fq := outsq_fn (W.take M2)
      have htl : (W.take M2).length = M2 := by rw [List.length_take]; omega
      have hR : RunOk l ⟨gs, W, F, M2, e2, K2, t + 1, n⟩ := by
        refine ⟨hgl, by dsimp only; omega, fun j hj => (hold j hj).mono (Nat.le_refl _) i2, ?_, hW, by dsimp only; omega, hFW, i4, i5, hk2, by dsimp only; omega⟩
        obtain ⟨a', q1, q2, q3⟩ := hnew
        exact ⟨a', q1, q2, by dsimp only; omega⟩
      refine zso ?_
      refine ev_lend [5, 6, 7] [(175, .bool false)] mixed rfl (by kernel_rfl) rfl ⟨?_, fun cx' => ?_⟩ ?_
      · (simp only [go_sem]; try (simp; done))
      · simp only [go_sem]
        refine zsx htl ?_
        refine zcd (fq) ?_
        refine ev_goal ?_
        simp [slotV]
      · simp only [go_sem]
        refine zst ?_
        exact zn4 (hJ _ (⟨_, hR⟩) (by first | omega | (dsimp only; omega) | (simp; omega))) hR
theorem once_law {a0 : List Int} {v0 : Value} (W : World) (e0 : (Sh.slice (Sh.int .i64)).rd (old W) W a0 [v0]) :
    Calls Try.prog 7 #[v0] W fun e w' => e = .returned (.bool true) ∧ Below W.heap.size W w' :=
  Fnc.law (once_fn a0) (RdTs.slice enc_i64s e0 RdTs.nil')
end Go.Proofs.Ytdjjhajkpfiagaa
