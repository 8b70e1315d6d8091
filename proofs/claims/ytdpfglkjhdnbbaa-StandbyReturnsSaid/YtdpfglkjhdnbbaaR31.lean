/- Standby: one that comes up again: plain. -/
import Derived.Test.YtdpfglkjhdnbbaaR30
namespace Go.Proofs.Ytdpfglkjhdnbbaa
open Go Go.RowKit Rdn Rdn.Dp
set_option linter.unusedVariables false
set_option linter.unusedSimpArgs false
theorem chgE_mk {p : Pair} {i : Int} {u : Bool} (h : chkP p = 0) (hi : i = 0 ∨ i = 1) (hu : p.up[i.toNat]! = u) : chgE p i u = 0 := by
  rw [chgE_eq, if_neg (fun c => c h), if_neg (by omega), if_neg (fun c => c hu)]
theorem sFail_o {p : Pair} {i : Int} (h : chgE p i true = 0) (hne : p.active ≠ i) : sFail p i = ({ p with up := p.up.set i.toNat false }, 0) := (if_neg (fun c => c h)).trans (by rw [if_neg hne])
theorem sFail_a {p : Pair} {i : Int} (h : chgE p i true = 0) (he : p.active = i) : sFail p i = (dnP p, 0) := (if_neg (fun c => c h)).trans (by rw [if_pos he])
theorem sStart_a {p : Pair} {i : Int} (h : chgE p i false = 0) (ha : 0 ≤ p.active) : sStart p i = ({ p with up := p.up.set i.toNat true, journals := p.journals.set i.toNat p.journals[p.active.toNat]!, sync := p.sync.set i.toNat true }, 0) := (if_neg (fun c => c h)).trans (by rw [if_pos ha, if_pos ha])
theorem sStart_n {p : Pair} {i : Int} (h : chgE p i false = 0) (ha : ¬ 0 ≤ p.active) : sStart p i = ({ p with up := p.up.set i.toNat true }, 0) := (if_neg (fun c => c h)).trans (by rw [if_neg ha, if_neg ha])
theorem outB_length (s : Int) (d : List Canon) : (outB s d).length = 2 + 19 * d.length := by
  have := outB_len d d.length
  rw [List.take_length, Nat.min_self] at this
  unfold outB
  rw [List.length_append, this]
  rfl
abbrev rN (d : List Canon) : Note := ⟨6, 0, 0, outB 0 d⟩
abbrev rP1 : Pair := { pN 1 with up := [true, false] }
theorem eff_out0 {d : List Canon} (hd : d.length ≤ 2) : ∃ c, effS g0 1 (rN d) = (⟨1, 0, 0, [⟨0, 0, c⟩]⟩, 1, 0) := by
  have h0 : (outB 0 d)[0]! = 0 := rfl
  have h1 : (outB 0 d)[1]! = (d.length : Int) := rfl
  have hl := outB_length 0 d
  have ok : okB (outB 0 d) := ⟨by omega, by rw [h1]; omega, by rw [h0]; omega, by rw [h1]; omega⟩
  refine ⟨cellsOf (outB 0 d) (outB 0 d)[1]!.toNat, ?_⟩
  unfold effS
  rw [if_pos rfl, if_pos ok]
  dsimp only
  rw [sOff_g0, if_neg (by rw [cellsOf_len, h0, h1]; omega), h0]
theorem ret_facts {d : List Canon} (hd : d.length ≤ 2) : ∃ P2 P3 P4 P5 Q3 Q4 Q5 : Pair, sNew 1 = (pN 1, 0) ∧ sFail (pN 1) 1 = (rP1, 0) ∧ sOut 0 d = (rN d, 0) ∧ sWr rP1 (rN d) = (P2, 0) ∧ (sFail P2 0 = (P3, 0) ∧ sStart P3 1 = (P4, 0) ∧ sTick P4 = (P5, false, 0) ∧ P5.active = -1) ∧
    (sStart P2 1 = (Q3, 0) ∧ sFail Q3 0 = (Q4, 0) ∧ sTick Q4 = (Q5, true, 0)) ∧ (Q3.sync.length = 2 ∧ Q3.journals.length = 2 ∧ Q3.sync[1]! = true ∧ Q3.journals[0]! = Q3.journals[1]! ∧ Q5.active = 1 ∧ Q5.gateway.next = 1 ∧ Q5.epoch = 2) ∧ FitP (pN 1) ∧ FitP rP1 ∧ FitP P2 ∧ FitP P3 ∧ FitP P4 ∧ FitP Q3 ∧ FitP Q4 := by
  have i0 := inv_new (w := 1) (by decide) (by decide)
  have e1 : sFail (pN 1) 1 = (rP1, 0) := sFail_o (chgE_mk (chkP_0 i0.ok) (.inr rfl) rfl) (by decide)
  have i1 : Inv rP1 g0 1 [] := by have := i0.fail 1; rwa [e1] at this
  have hl := outB_length 0 d
  have hj := jn0_len
  obtain ⟨c, hc⟩ := eff_out0 hd
  have hA : sApp rP1.journals[rP1.active.toNat]! (rN d) = (jn0 ++ encB (rN d), 0) := sApp_mk (by
    unfold chkN
    rw [if_neg (by dsimp only; omega), if_neg (by dsimp only; omega)]) (by show jn0.length + (12 + (outB 0 d).length) ≤ _; omega)
  obtain ⟨t1, t2, t3, t4⟩ := wr_step (p := rP1) (n := rN d) i1.ok (by decide) (by show (6 : Int) ≠ 5; decide) (by rw [hA]) (by show (effS g0 1 (rN d)).2.2 = 0; rw [hc])
  have t2 : (wrP rP1 (rN d)).gateway = ⟨1, 0, 0, [⟨0, 0, c⟩]⟩ := by rw [t2]; show (effS g0 1 (rN d)).1 = _; rw [hc]
  have e2 := sWr_0 t1
  have i2 := i1.write (rN d) (by rw [e2])
  rw [e2] at i2
  dsimp only at i2
  have u2 : (wrP rP1 (rN d)).up = [true, false] := rfl
  have a2 : (wrP rP1 (rN d)).active = 0 := rfl
  have s2 : (wrP rP1 (rN d)).sync = [true, false] := rfl
  have l2 : (wrP rP1 (rN d)).silent = 0 := rfl
  have w2 : (wrP rP1 (rN d)).wait = 1 := rfl
  have t4 : (wrP rP1 (rN d)).journals[0]! = jn0 ++ encB (rN d) := t4
  have j2 : (wrP rP1 (rN d)).journals.length = 2 := i2.ok.2.1.2.2.1
  generalize wrP rP1 (rN d) = P2 at *
  -- the one that works fails before
  have e3 : sFail P2 0 = (dnP P2, 0) := sFail_a (chgE_mk (chkP_0 i2.ok) (.inl rfl) (by rw [u2]; rfl)) a2
  have i3 := i2.fail 0
  rw [e3] at i3
  dsimp only at i3
  have u3 : (dnP P2).up = [false, false] := by show P2.up.set P2.active.toNat false = _; rw [u2, a2]; rfl
  have e4 : sStart (dnP P2) 1 = ({ dnP P2 with up := (dnP P2).up.set (1 : Int).toNat true }, 0) := sStart_n (chgE_mk (chkP_0 i3.ok) (.inr rfl) (by rw [u3]; rfl)) (by show ¬ (0 : Int) ≤ -1; omega)
  have i4 := i3.start 1
  rw [e4] at i4
  dsimp only at i4
  have e5 : sTick { dnP P2 with up := (dnP P2).up.set (1 : Int).toNat true } = (slP { dnP P2 with up := (dnP P2).up.set (1 : Int).toNat true }, false, 0) := sTick_w (chkP_0 i4.ok) (by show ¬ (0 : Int) ≤ -1; omega) (fun h => by
    have h2 := h.2
    unfold nxtP at h2
    have q0 : ((dnP P2).up.set (1 : Int).toNat true)[0]! = false := by rw [u3]; rfl
    have q1 : (dnP P2).sync[1]! = false := by show P2.sync[1]! = false; rw [s2]; rfl
    rw [if_neg (fun h => by have h := h.1; rw [q0] at h; cases h), if_neg (fun h => by have h := h.2; rw [q1] at h; cases h)] at h2
    exact absurd h2 (by decide))
  -- behind
  have e6 : sStart P2 1 = ({ P2 with up := P2.up.set (1 : Int).toNat true, journals := P2.journals.set (1 : Int).toNat P2.journals[P2.active.toNat]!, sync := P2.sync.set (1 : Int).toNat true }, 0) := sStart_a (chgE_mk (chkP_0 i2.ok) (.inr rfl) (by rw [u2]; rfl)) (by rw [a2]; decide)
  have i6 := i2.start 1
  rw [e6] at i6
  dsimp only at i6
  have Q0 : P2.journals[P2.active.toNat]! = jn0 ++ encB (rN d) := by rw [a2]; exact t4
  have Q1 : (P2.journals.set (1 : Int).toNat P2.journals[P2.active.toNat]!)[1]! = jn0 ++ encB (rN d) := by rw [Q0]; exact set_at _ _ (by omega)
  have Q2 : (P2.journals.set (1 : Int).toNat P2.journals[P2.active.toNat]!)[0]! = jn0 ++ encB (rN d) := (set_ne _ _ (by decide)).trans t4
  have Q3 : (P2.sync.set (1 : Int).toNat true) = [true, true] := by rw [s2]; rfl
  have Q4 : (P2.up.set (1 : Int).toNat true) = [true, true] := by rw [u2]; rfl
  obtain ⟨X, hX⟩ : ∃ X : Pair, X = { P2 with up := P2.up.set (1 : Int).toNat true, journals := P2.journals.set (1 : Int).toNat P2.journals[P2.active.toNat]!, sync := P2.sync.set (1 : Int).toNat true } := ⟨_, rfl⟩
  rw [← hX] at e6 i6
  have x1 : X.up = [true, true] := by rw [hX]; exact Q4
  have x2 : X.sync = [true, true] := by rw [hX]; exact Q3
  have x3 : X.journals[1]! = jn0 ++ encB (rN d) := by rw [hX]; exact Q1
  have x4 : X.journals[0]! = jn0 ++ encB (rN d) := by rw [hX]; exact Q2
  have x5 : X.active = 0 := by rw [hX]; exact a2
  have x6 : X.wait = 1 := by rw [hX]; exact w2
  have x7 : X.journals.length = 2 := i6.ok.2.1.2.2.1
  clear hX Q0 Q1 Q2 Q3 Q4
  have e7 : sFail X 0 = (dnP X, 0) := sFail_a (chgE_mk (chkP_0 i6.ok) (.inl rfl) (by rw [x1]; rfl)) x5
  have i7 := i6.fail 0
  rw [e7] at i7
  dsimp only at i7
  have y1 : (dnP X).up = [false, true] := by show X.up.set X.active.toNat false = _; rw [x1, x5]; rfl
  have y2 : (dnP X).sync = [true, true] := x2
  have hnx : nxtP (dnP X) = 1 := by
    unfold nxtP
    rw [y1, y2]
    rfl
  have hsl : min ((dnP X).silent + 1) (dnP X).wait = (dnP X).wait := by show min ((0 : Int) + 1) X.wait = X.wait; rw [x6]; rfl
  have e8 := sTick_o (p := dnP X) (chkP_0 i7.ok) (by show ¬ (0 : Int) ≤ -1; omega) hsl (by rw [hnx]; decide)
  rw [hnx] at e8
  have hG : ovG (slP (dnP X)) 1 = (P2.gateway, 1, 0) := i7.idle (by show (-1 : Int) < 0; omega) 1 (by omega) (by rw [y2]; rfl)
  have hB : (ovB (slP (dnP X)) 1).2 = 0 := by
    unfold ovB
    rw [hG, sApp_mk (show chkN (nt5k (1 + 1)) = 0 by decide) ?_]
    have l1 : (List.take (sRec (slP (dnP X)).journals[(1 : Int).toNat]!).2 (slP (dnP X)).journals[(1 : Int).toNat]!).length ≤ (slP (dnP X)).journals[(1 : Int).toNat]!.length := by rw [List.length_take]; omega
    have l2 : (slP (dnP X)).journals[(1 : Int).toNat]!.length = 12 + (12 + (2 + 19 * d.length)) := by
      show X.journals[1]!.length = _
      rw [x3, List.length_append, encB_len, hj, hl]
    show _ + (12 + 0) ≤ _
    omega
  have hO : ovOk (slP (dnP X)) 1 := ⟨by rw [hG], by rw [hG]; show (1 : Int) < 1048576; decide, hB⟩
  rw [sOver_ok hO] at e8
  refine ⟨P2, dnP P2, _, _, X, dnP X, _, if_neg (by decide), e1, if_neg (by omega), e2, ⟨e3, e4, e5, rfl⟩, ⟨e6, e7, e8⟩, ⟨by rw [x2]; rfl, x7, by rw [x2]; rfl, by rw [x3, x4], rfl, ?_, ?_⟩, i0.fit, i1.fit, i2.fit, i3.fit, i4.fit, i6.fit, i7.fit⟩
  · show (ovG (slP (dnP X)) 1).1.next = 1
    rw [hG, t2]
  · show (ovG (slP (dnP X)) 1).2.1 + 1 = 2
    rw [hG]; rfl
end Go.Proofs.Ytdpfglkjhdnbbaa
