/- Standby: what a write keeps; the example of the chapter. -/
import Derived.Test.YtdpfglkjhdnbbaaGreatR17
import Derived.Test.YtdpfglkjhdnbbaaGreatC5
namespace Go.Proofs.YtdpfglkjhdnbbaaGreat
open Go Go.RowKit Rdn Rdn.Dp
set_option linter.unusedVariables false
set_option linter.unusedSimpArgs false
theorem m_aw40_ok : compF Tryz.prog 5 = some (69, Qr ([Qc 0 (.bool false)])
 (Qr ([Qq 10 13 [(Qi 3)], Qm 9 10, Qe 11 9 0, Qe 12 9 1, Qw 1 (.alloc 35 (.agg [.int .i64 0, .int .i64 0, .int .i64 0, .nilS, .nilS, .nilS, .agg [.int .i64 0, .int .i64 0, .int .i64 0, .nilS], .int .i64 0, .agg [.int .i64 0, .int .i64 0, .nilS]])), Qs 14 1 11, Qm 2 12])
 (Qr ([Qq 14 14 [(Qi 0), (.c (.nilS))], Qm 13 14, Qe 15 13 0, Qe 16 13 1, Qw 3 (.alloc 42 (.agg [.int .i64 0, .int .i64 0, .int .i64 0, .nilS])), Qs 4 3 15, Qm 4 16])
 (Qr ([QL 18 14 1, QL 19 4 3, Qq 20 15 [(.t 18), (.t 19)], Qm 17 20, Qe 21 17 0, Qe 22 17 1, Qs 14 1 21, Qm 5 22])
 (Qr ([QL 24 14 1, Qw 25 (.build none [.int .i64 0, .int .i64 0, .int .i64 0, .nilS] [(0, (Qi 3)), (1, (Qi 1))]), Qq 26 15 [(.t 24), (.t 25)], Qm 23 26, Qe 27 23 0, Qe 28 23 1, Qs 14 1 27, Qm 6 28])
 (Qr ([QL 30 14 1, Qq 31 16 [(.t 30)], Qm 29 31, Qe 32 29 0, Qe 33 29 1, Qe 34 29 2, Qs 14 1 32, Qm 7 33, Qm 8 34])
 (Qr ([Qm 35 2, Qk 36 .eql 35 0, Qm 37 36, Q1 38 37 (.mov (.t 4)), Q1 39 37 (.bin 0 .eql (.t 38) (Qi 0)), Qu 40 37 39, Qm 41 40, Q1 42 41 (.mov (.t 5)), Q1 43 41 (.bin 0 .eql (.t 42) (Qi 0)), Qu 44 41 43, Qm 45 44, Q1 46 45 (.mov (.t 6)), Q1 47 45 (.bin 0 .eql (.t 46) (Qi 0)), Qu 48 45 47, Qm 49 48, Q1 50 49 (.mov (.t 8)), Q1 51 49 (.bin 0 .eql (.t 50) (Qi 0)), Qu 52 49 51, Qm 53 52, Q1 54 53 (.mov (.t 7)), Q1 55 53 (.bin 0 .eql (.t 54) (Qi 1)), Qu 56 53 55, Qm 57 56, Q1 58 57 (.fieldA 11 8 (.t 1)), Q1 59 57 (.fieldA 2 2 (.t 58)), Q1 60 57 (.load false 1 (.t 59)), Q1 61 57 (.len (.t 60)), Q1 62 57 (.bin 0 .eql (.t 61) (Qi 1)), Qu 63 57 62, Qm 64 63, Q1 65 64 (.load true 14 (.t 1)), ⟨(some 66), (some (64, true)), (.call 17 [(.t 65)])⟩, Q1 67 64 (.bin 0 .eql (.t 66) (Qi 0)), Qu 68 64 67, Qm 0 68])
 (.ret))))))), [.mov (.t 0)]) := by kernel_rfl
theorem chk_ok {g : Gateway} (h : chk g = 0) : okG g := Classical.byContradiction fun c => by rw [chk_F c] at h; cases h
theorem get_app {l : List Output} {o : Output} {j : Nat} (h : j < l.length) : (l ++ [o])[j]! = l[j]! := by simp [List.getElem?_append_left h]
theorem sOff_ok {g : Gateway} {s : Int} {d : List Canon} (h : okG g) : okG (sOff g s d).1 := by
  unfold sOff
  split
  · exact h
  · split
    · exact h
    · split
      · exact h
      · rename_i c1 c2 c3
        obtain ⟨⟨a1, a2, a3, a4, a5, a6⟩, hh⟩ := h
        refine ⟨⟨a1, a2, by dsimp only; omega, by dsimp only; omega, by simp; omega, by simp; omega⟩, fun j hj => ?_⟩
        simp only [List.length_append, List.length_singleton] at hj
        by_cases e : j < g.held.length
        · show okO g.acked j ((g.held ++ [_])[j]!)
          rw [get_app e]
          exact hh j e
        · obtain rfl : j = g.held.length := by omega
          show okO g.acked _ ((g.held ++ [_])[g.held.length]!)
          have e : (g.held ++ [(⟨g.next, s, d⟩ : Output)])[g.held.length]! = ⟨g.next, s, d⟩ := by simp
          rw [e]
          exact ⟨by dsimp only; omega, by dsimp only; omega, by dsimp only; omega, by dsimp only; omega⟩
theorem sFree_ok {g : Gateway} {n : Int} (h : okG g) : okG (sFree g n).1 := by
  unfold sFree
  split
  · exact h
  · split
    · exact h
    · obtain ⟨⟨a1, a2, a3, a4, a5, a6⟩, hh⟩ := h
      exact ⟨⟨a1, by dsimp only; omega, by dsimp only; omega, a4, a5, a6⟩, hh⟩
theorem sAck_ok {g : Gateway} {n : Int} (h : okG g) : okG (sAck g n).1 := by
  unfold sAck
  split
  · exact h
  · split
    · exact h
    · obtain ⟨⟨a1, a2, a3, a4, a5, a6⟩, hh⟩ := h
      refine ⟨⟨by dsimp only; omega, by dsimp only; omega, a3, a4, by simp; omega, by simp; omega⟩, fun j hj => ?_⟩
      simp only [List.length_drop] at hj
      have e : (g.held.drop (n - g.acked).toNat)[j]! = g.held[(n - g.acked).toNat + j]! := by simp [List.getElem?_drop]
      obtain ⟨b1, b2, b3, b4⟩ := hh ((n - g.acked).toNat + j) (by omega)
      show okO n j ((g.held.drop (n - g.acked).toNat)[j]!)
      rw [e]
      exact ⟨by omega, b2, b3, b4⟩
theorem effS_ok {g : Gateway} {e : Int} {n : Note} (h : okG g) : okG (effS g e n).1 := by
  unfold effS
  split
  · split
    · exact sOff_ok h
    · exact h
  · split
    · exact sFree_ok h
    · split
      · exact sAck_ok h
      · split
        · split <;> exact h
        · exact h
theorem effS_ep {g : Gateway} {e : Int} {n : Note} (h : n.kind ≠ 5) : (effS g e n).2.1 = e := by
  unfold effS
  split
  · split <;> rfl
  · split
    · rfl
    · split
      · rfl
      · rfl
theorem who_inv {p : Pair} (h : whoB p = true) : p.up[p.active.toNat]! = true ∧ p.sync[p.active.toNat]! = true ∧ (sRec p.journals[p.active.toNat]!).2 = p.journals[p.active.toNat]!.length ∧ sReb (sRec p.journals[p.active.toNat]!).1 = (p.gateway, p.epoch, 0) := by
  unfold whoB at h
  simpa only [Bool.and_eq_true, decide_eq_true_eq] using h
theorem who_mk {p : Pair} (h1 : p.up[p.active.toNat]! = true) (h2 : p.sync[p.active.toNat]! = true) (h3 : (sRec p.journals[p.active.toNat]!).2 = p.journals[p.active.toNat]!.length) (h4 : sReb (sRec p.journals[p.active.toNat]!).1 = (p.gateway, p.epoch, 0)) : whoB p = true := by
  unfold whoB
  simp only [Bool.and_eq_true, decide_eq_true_eq]
  exact ⟨h1, h2, h3, h4⟩
theorem chkP_0 {p : Pair} (h : okPr p) : chkP p = 0 := if_pos h
theorem wr_reb {p : Pair} {n : Note} (h : okPr p) (ha : 0 ≤ p.active) (hA : (sApp p.journals[p.active.toNat]! n).2 = 0) : wrB p n = p.journals[p.active.toNat]! ++ encB n ∧ (sRec (wrB p n)).2 = (wrB p n).length ∧ sReb (sRec (wrB p n)).1 = if (effS p.gateway p.epoch n).2.2 = 0 then ((effS p.gateway p.epoch n).1, (effS p.gateway p.epoch n).2.1, 0) else (g0, 0, (effS p.gateway p.epoch n).2.2) := by
  obtain ⟨k1, k2, k3⟩ := sApp_0 hA
  obtain ⟨w1, w2, w3, w4⟩ := who_inv (h.2.2.2.resolve_left (by omega))
  have e : wrB p n = p.journals[p.active.toNat]! ++ encB n := k1
  rw [e, rec_snoc w3 k3]
  exact ⟨rfl, rfl, sReb_snoc n w4⟩
theorem set_at {α : Type} [Inhabited α] (l : List α) {i : Nat} (x : α) (h : i < l.length) : (l.set i x)[i]! = x := by simp [h]
theorem set_ne {α : Type} [Inhabited α] (l : List α) {i j : Nat} (x : α) (h : i ≠ j) : (l.set i x)[j]! = l[j]! := by simp [List.getElem?_set_ne h]
theorem bhd_len (b m : List Int) : (bhd b m).length ≤ 262144 := by unfold bhd; rw [List.length_take]; omega
theorem two_mk {q : List (List Int)} {a o : Nat} (ha : a < 2) (ho : o = 1 - a) (h1 : q[a]!.length ≤ 262144) (h2 : q[o]!.length ≤ 262144) : q[0]!.length ≤ 262144 ∧ q[1]!.length ≤ 262144 := by
  rcases (by omega : a = 0 ∨ a = 1) with rfl | rfl
  · subst ho; exact ⟨h1, h2⟩
  · subst ho; exact ⟨h2, h1⟩
theorem wr_step {p : Pair} {n : Note} (h : okPr p) (ha : 0 ≤ p.active) (hk : n.kind ≠ 5) (hA : (sApp p.journals[p.active.toNat]! n).2 = 0) (hE : (effS p.gateway p.epoch n).2.2 = 0) : wrE p n = 0 ∧ (wrP p n).gateway = (effS p.gateway p.epoch n).1 ∧ okPr (wrP p n) ∧ (wrP p n).journals[p.active.toNat]! = p.journals[p.active.toNat]! ++ encB n := by
  obtain ⟨r1, r2, r3⟩ := wr_reb h ha hA
  rw [if_pos hE, effS_ep hk] at r3
  have c1 := chkP_0 h
  have hg : (wrP p n).gateway = (effS p.gateway p.epoch n).1 := by show (sReb (sRec (wrB p n)).1).1 = _; rw [r3]
  obtain ⟨hn, ⟨h1, h2, h3, h4, h5⟩, hgw, hw⟩ := h
  obtain ⟨w1, w2, w3, w4⟩ := who_inv (hw.resolve_left (by omega))
  have a1 : p.active ≤ 1 := hn.2.2.2.2.2.1
  have hne : p.active.toNat ≠ (1 - p.active).toNat := by omega
  have hne' : (1 - p.active).toNat ≠ p.active.toNat := by omega
  have hjo := two_le h3 h4 h5 (a := (1 - p.active).toNat) (by omega)
  have hj : (wrP p n).journals[p.active.toNat]! = wrB p n := by
    show (if p.up[(1 - p.active).toNat]! then _ else _ : List (List Int))[p.active.toNat]! = _
    split
    · rw [set_ne _ _ hne', set_at _ _ (by omega)]
    · rw [set_at _ _ (by omega)]
  have hj2 : (wrP p n).journals[(1 - p.active).toNat]!.length ≤ 262144 := by
    show (if p.up[(1 - p.active).toNat]! then _ else _ : List (List Int))[(1 - p.active).toNat]!.length ≤ _
    split
    · rw [set_at _ _ (by rw [List.length_set]; omega)]
      exact bhd_len _ _
    · rw [set_ne _ _ hne]
      exact hjo
  have hb : (wrB p n).length ≤ 262144 := sApp_len _ _
  have hjl : (wrP p n).journals.length = 2 := by
    show (if p.up[(1 - p.active).toNat]! then _ else _ : List (List Int)).length = 2
    split <;> simp [h3]
  have hsl : (wrP p n).sync.length = 2 := by
    show (if p.up[(1 - p.active).toNat]! then _ else _ : List Bool).length = 2
    split <;> simp [h2]
  have hsa : (wrP p n).sync[p.active.toNat]! = true := by
    show (if p.up[(1 - p.active).toNat]! then _ else _ : List Bool)[p.active.toNat]! = true
    split
    · exact w2
    · rw [set_ne _ _ hne']; exact w2
  have hjj := two_mk (q := (wrP p n).journals) (a := p.active.toNat) (o := (1 - p.active).toNat) (by omega) (by omega) (by rw [hj]; exact hb) hj2
  refine ⟨?_, hg, ⟨hn, ⟨h1, hsl, hjl, hjj.1, hjj.2⟩, ?_, .inr (who_mk (p := wrP p n) w1 hsa ?_ ?_)⟩, hj.trans r1⟩
  · unfold wrE
    rw [if_neg (by simp [c1]), if_neg (by omega), if_neg hk, if_neg (fun c => c hA), r3]
  · rw [hg]
    exact chk_T (effS_ok (chk_ok hgw))
  · show (sRec (wrP p n).journals[p.active.toNat]!).2 = (wrP p n).journals[p.active.toNat]!.length
    rw [hj]; exact r2
  · show sReb (sRec (wrP p n).journals[p.active.toNat]!).1 = ((wrP p n).gateway, p.epoch, 0)
    rw [hj, r3, hg]
theorem FitP.mk' {p : Pair} (h : okPr p) (hm : fitO p.mailbox.taken) : FitP p := by
  obtain ⟨hn, ⟨h1, h2, h3, h4, h5⟩, hg, hw⟩ := h
  refine ⟨by omega, by omega, by omega, fun x hx => ?_, (chk_ok hg).fit, hm⟩
  obtain ⟨i, hi, rfl⟩ := List.mem_iff_getElem.1 hx
  have := two_le h3 h4 h5 (a := i) (by omega)
  rw [List.getElem!_eq_getElem?_getD, List.getElem?_eq_getElem hi] at this
  simp only [Option.getD_some] at this
  omega
theorem jn0_jb : jn0 = jb [nt5] := by
  obtain ⟨k1, _, _⟩ := sApp_0 (j := []) (n := nt5) (by rw [sApp_nt5])
  rw [sApp_nt5] at k1
  rw [jb_cons, jb_nil, List.append_nil]
  exact k1
theorem okNs5 : okNs [nt5] := fun x hx => by rw [List.mem_singleton] at hx; subst hx; exact chk_nt5
theorem rec_jn0 : sRec jn0 = ([nt5], jn0.length) := by rw [jn0_jb]; exact rec_jb okNs5
theorem jn0_len : jn0.length = 12 := by rw [jn0_jb, jb_cons, jb_nil, List.append_nil, encB_len]; rfl
theorem reb_nt5 : sReb [nt5] = (g0, 1, 0) := by
  have e : effS g0 0 nt5 = (g0, 1, 0) := by
    unfold effS nt5
    rw [if_neg (by decide), if_neg (by decide), if_neg (by decide), if_pos rfl, if_neg (by decide)]
  unfold sReb
  rw [rebF, e, if_pos rfl, rebF]
abbrev pN (w : Int) : Pair := ⟨w, 0, 0, [true, true], [true, true], [jn0, jn0], g0, 1, m0⟩
theorem new_ok {w : Int} (h1 : 1 ≤ w) (h2 : w ≤ 1000) : okPr (pN w) := by
  have hl := jn0_len
  refine ⟨⟨h1, h2, by show (0 : Int) ≤ 0; omega, by show (0 : Int) ≤ w; omega, by show (-1 : Int) ≤ 0; omega, by show (0 : Int) ≤ 1; omega, by show (0 : Int) ≤ 1; omega, by show (1 : Int) ≤ 1048576; omega⟩, ⟨rfl, rfl, rfl, ?_, ?_⟩, chk_T g0_ok, .inr (who_mk rfl rfl ?_ ?_)⟩
  · show jn0.length ≤ _; omega
  · show jn0.length ≤ _; omega
  · show (sRec jn0).2 = jn0.length; rw [rec_jn0]
  · show sReb (sRec jn0).1 = (g0, 1, 0); rw [rec_jn0]; exact reb_nt5
abbrev aN1 : Note := ⟨6, 0, 0, outB 0 []⟩
abbrev aN2 : Note := ⟨3, 1, 0, []⟩
abbrev aG1 : Gateway := ⟨1, 0, 0, [⟨0, 0, []⟩]⟩
abbrev aG2 : Gateway := ⟨1, 1, 0, [⟨0, 0, []⟩]⟩
theorem sApp_mk {j : List Int} {n : Note} (h : chkN n = 0) (hl : j.length + (12 + n.bytes.length) ≤ 262144) : sApp j n = (j ++ encB n, 0) := by
  unfold sApp sEnc
  rw [if_pos h, if_neg (by simp), if_neg (by dsimp only; rw [encB_len]; omega)]
theorem chk_aN1 : chkN aN1 = 0 := by decide
theorem chk_aN2 : chkN aN2 = 0 := by decide
theorem eff_1 : effS g0 1 aN1 = (aG1, 1, 0) := by
  unfold effS
  have h : okB aN1.bytes := by unfold okB; decide
  rw [if_pos rfl, if_pos h, sOff_g0]
  rfl
theorem eff_2 : effS aG1 1 aN2 = (aG2, 1, 0) := by
  have h : okG aG1 := by have := effS_ok (g := g0) (e := 1) (n := aN1) g0_ok; rwa [eff_1] at this
  unfold effS
  rw [if_neg (by decide), if_pos rfl]
  unfold sFree
  rw [if_neg (by rw [chk_T h]; decide), if_neg (by decide)]
theorem aw_facts : ∃ P1 P2 P3 : Pair, sWr (pN 3) aN1 = (P1, 0) ∧ sWr P1 aN2 = (P2, 0) ∧ sSnd P2 = (P3, 1, 0) ∧ chkP P3 = 0 ∧ P3.mailbox.taken.length = 1 ∧ FitP (pN 3) ∧ FitP P1 ∧ FitP P2 ∧ P2.mailbox.taken.length ≤ 3518437208780 := by
  have h0 := new_ok (w := 3) (by decide) (by decide)
  have f0 : fitO m0.taken := ⟨by decide, fun o ho => by cases ho⟩
  have hl := jn0_len
  obtain ⟨a1, a2, a3, a4⟩ := wr_step (p := pN 3) (n := aN1) h0 (by decide) (by decide) (by rw [sApp_mk chk_aN1 (by show jn0.length + (12 + 2) ≤ _; omega)]) (by show (effS g0 1 aN1).2.2 = 0; rw [eff_1])
  have a2 : (wrP (pN 3) aN1).gateway = aG1 := by rw [a2]; show (effS g0 1 aN1).1 = aG1; rw [eff_1]
  have b1 : (wrP (pN 3) aN1).active = 0 := rfl
  have b2 : (wrP (pN 3) aN1).epoch = 1 := rfl
  have b3 : (wrP (pN 3) aN1).mailbox = m0 := rfl
  have b4 : (wrP (pN 3) aN1).journals[(0 : Int).toNat]!.length = 26 := by
    have e : (wrP (pN 3) aN1).journals[(0 : Int).toNat]! = jn0 ++ encB aN1 := a4
    rw [e, List.length_append, encB_len, hl]; rfl
  have s1 := sWr_0 a1
  clear a1 a4
  generalize wrP (pN 3) aN1 = P1 at *
  obtain ⟨c1, c2, c3, c4⟩ := wr_step (p := P1) (n := aN2) a3 (by omega) (by decide) (by rw [sApp_mk chk_aN2 (by rw [b1]; show _ + (12 + 0) ≤ _; omega)]) (by rw [a2, b2, eff_2])
  have c2 : (wrP P1 aN2).gateway = aG2 := by rw [c2, a2, b2, eff_2]
  have d1 : (wrP P1 aN2).active = 0 := b1
  have d2 : (wrP P1 aN2).epoch = 1 := b2
  have d3 : (wrP P1 aN2).mailbox = m0 := b3
  have s2 := sWr_0 c1
  clear c1 c4
  generalize wrP P1 aN2 = P2 at *
  have hE : sndE P2 = 0 := by unfold sndE; rw [if_neg (by simp [chkP_0 c3]), if_neg (by omega)]
  have hS : (sSend P2.gateway).1 = [⟨0, 0, []⟩] := by
    rw [c2]
    unfold sSend
    rw [if_neg (by have := c3.2.2.1; rw [c2] at this; rw [this]; decide)]
    rfl
  have hT : tkF P2.epoch P2.mailbox 0 (sSend P2.gateway).1 = (⟨1, 1, [⟨0, 0, []⟩]⟩, 1) := by
    rw [hS, d2, d3]; decide
  have s3 := sSnd_0 hE
  rw [hT] at s3
  refine ⟨P1, P2, { P2 with mailbox := ⟨1, 1, [⟨0, 0, []⟩]⟩ }, s1, s2, s3, chkP_0 ?_, rfl, FitP.mk' h0 f0, FitP.mk' a3 (by rw [b3]; exact f0), FitP.mk' c3 (by rw [d3]; exact f0), by rw [d3]; decide⟩
  exact c3
set_option maxHeartbeats 4000000 in
theorem awake40_fn : Fnc Tryz.prog 5 [] (fun x obs => x = .bool true ∧ obs = []) := by
  obtain ⟨P1, P2, P3, s1, s2, s3, k1, k2, F0, F1, F2, m2⟩ := aw_facts
  have f1 := pnew_fn 3
  have e1 : sNew 3 = (pN 3, 0) := if_neg (by decide)
  rw [e1] at f1
  clear e1
  have f2 := sout_fn 0 []
  rw [show sOut 0 [] = (aN1, 0) from if_neg (by decide)] at f2
  have f3 := pWr_fn (pN 3) aN1 F0
  rw [s1] at f3
  have f4 := pWr_fn P1 aN2 F1
  rw [s2] at f4
  have f5 := psnd_fn P2 F2 m2
  rw [s3] at f5
  have f6 := pchk_fn P3
  rw [k1] at f6
  clear F0 s1
  generalize pN 3 = P0 at *
  generalize aN1 = N1 at *
  refine zgo m_aw40_ok fun W S => ?_
  refine zcd (f1) ?_
  refine zcd (f2) ?_
  refine zcd (f3) ?_
  refine zcd (f4) ?_
  refine zcd (f5) ?_
  refine zcd (f6) ?_
  exact zrt m_aw40_ok
end Go.Proofs.YtdpfglkjhdnbbaaGreat
