/- Standby: what steps keep: plain. -/
import Derived.Test.YtdpfglkjhdnbbaaGreatR25
import Derived.Test.YtdpfglkjhdnbbaaGreatR18
namespace Go.Proofs.YtdpfglkjhdnbbaaGreat
open Go Go.RowKit Rdn Rdn.Dp
set_option linter.unusedVariables false
set_option linter.unusedSimpArgs false
theorem okPr_mb {p : Pair} (h : okPr p) (m : Mailbox) : okPr { p with mailbox := m } := h
structure Inv (p : Pair) (g : Gateway) (ep : Int) (out : List Output) : Prop where
  ok : okPr p
  gok : okG g
  next : g.next = out.length
  held : g.held = out.drop g.acked.toNat
  short : shortO 16 out
  mnext : p.mailbox.next = p.mailbox.taken.length
  mfree : p.mailbox.next ≤ g.free
  mtak : p.mailbox.taken = out.take p.mailbox.taken.length
  act : 0 ≤ p.active → p.gateway = g ∧ p.epoch = ep ∧ ∀ i, i < 2 → p.sync[i]! = true → p.journals[i]! = p.journals[p.active.toNat]!
  idle : p.active < 0 → ∀ i, i < 2 → p.sync[i]! = true → sReb (sRec p.journals[i]!).1 = (g, ep, 0)
section
variable {p : Pair} {g : Gateway} {ep : Int} {out : List Output}
theorem Inv.tlen (h : Inv p g ep out) : p.mailbox.taken.length ≤ 200 := by
  obtain ⟨a1, a2, a3, a4, a5, a6⟩ := h.gok.1
  have := h.mfree
  have := h.mnext
  omega
theorem Inv.fit (h : Inv p g ep out) : FitP p := FitP.mk' h.ok ⟨by have := h.tlen; omega, fun o ho => by
  rw [h.mtak] at ho
  have := h.short o (List.mem_of_mem_take ho)
  omega⟩
theorem Inv.who (h : Inv p g ep out) (ha : 0 ≤ p.active) : p.up[p.active.toNat]! = true ∧ p.sync[p.active.toNat]! = true ∧ (sRec p.journals[p.active.toNat]!).2 = p.journals[p.active.toNat]!.length ∧ sReb (sRec p.journals[p.active.toNat]!).1 = (g, ep, 0) := by
  obtain ⟨w1, w2, w3, w4⟩ := who_inv (h.ok.2.2.2.resolve_left (by omega))
  obtain ⟨e1, e2, _⟩ := h.act ha
  exact ⟨w1, w2, w3, by rw [w4, e1, e2]⟩
theorem Inv.a1 (h : Inv p g ep out) : p.active ≤ 1 := h.ok.1.2.2.2.2.2.1
theorem ok_down (h : okPr p) {q : List (List Int)} (hq : q.length = 2) (h0 : q[0]!.length ≤ 262144) (h1 : q[1]!.length ≤ 262144) : okPr (dnP { p with journals := q }) := by
  obtain ⟨⟨n1, n2, n3, n4, n5, n6, n7, n8⟩, ⟨s1, s2, s3, s4, s5⟩, hg, hw⟩ := h
  refine ⟨⟨n1, n2, by show (0 : Int) ≤ 0; omega, by show (0 : Int) ≤ p.wait; omega, by show (-1 : Int) ≤ -1; omega, by show (-1 : Int) ≤ 1; omega, by show (0 : Int) ≤ 0; omega, by show (0 : Int) ≤ 1048576; omega⟩, ⟨?_, s2, hq, h0, h1⟩, chk_T g0_ok, .inl (by show (-1 : Int) < 0; omega)⟩
  show (p.up.set p.active.toNat false).length = 2
  rw [List.length_set]; exact s1
theorem Inv.fail (h : Inv p g ep out) (i : Int) : Inv (sFail p i).1 g ep out := by
  unfold sFail
  split
  · exact h
  · rename_i c
    obtain ⟨k1, k2, k3⟩ := chgE_0 (Classical.byContradiction c)
    obtain ⟨s1, s2, s3, s4, s5⟩ := h.ok.2.1
    dsimp only
    split
    · rename_i e
      have ha : 0 ≤ p.active := by omega
      obtain ⟨w1, w2, w3, w4⟩ := h.who ha
      refine ⟨ok_down h.ok s3 s4 s5, h.gok, h.next, h.held, h.short, h.mnext, h.mfree, h.mtak, fun hc => absurd hc (by show ¬ (0 : Int) ≤ -1; omega), fun _ j hj hs => ?_⟩
      show sReb (sRec p.journals[j]!).1 = _
      rw [(h.act ha).2.2 j hj hs]
      exact w4
    · rename_i e
      refine ⟨?_, h.gok, h.next, h.held, h.short, h.mnext, h.mfree, h.mtak, h.act, h.idle⟩
      obtain ⟨hn, hs, hg, hw⟩ := h.ok
      refine ⟨hn, ⟨by show (p.up.set i.toNat false).length = 2; rw [List.length_set]; exact s1, s2, s3, s4, s5⟩, hg, ?_⟩
      rcases hw with hw | hw
      · exact .inl hw
      · by_cases ha : 0 ≤ p.active
        · obtain ⟨w1, w2, w3, w4⟩ := who_inv hw
          refine .inr (who_mk (p := { p with up := p.up.set i.toNat false }) ?_ w2 w3 w4)
          show (p.up.set i.toNat false)[p.active.toNat]! = true
          rw [set_ne _ _ (by omega)]
          exact w1
        · exact .inl (by show p.active < 0; omega)
theorem Inv.start (h : Inv p g ep out) (i : Int) : Inv (sStart p i).1 g ep out := by
  unfold sStart
  split
  · exact h
  · rename_i c
    obtain ⟨k1, k2, k3⟩ := chgE_0 (Classical.byContradiction c)
    obtain ⟨hn, ⟨s1, s2, s3, s4, s5⟩, hg, hw⟩ := h.ok
    dsimp only
    by_cases ha : 0 ≤ p.active
    · rw [if_pos ha, if_pos ha]
      have a1 := h.a1
      have hai := act_up k1 ha k2 k3
      obtain ⟨w1, w2, w3, w4⟩ := h.who ha
      obtain ⟨e1, e2, e3⟩ := h.act ha
      have hne : i.toNat ≠ p.active.toNat := by omega
      have hja := two_le s3 s4 s5 (a := p.active.toNat) (by omega)
      have hj : (p.journals.set i.toNat p.journals[p.active.toNat]!)[p.active.toNat]! = p.journals[p.active.toNat]! := set_ne _ _ hne
      have hji : (p.journals.set i.toNat p.journals[p.active.toNat]!)[i.toNat]! = p.journals[p.active.toNat]! := set_at _ _ (by omega)
      have h2 := two_mk (q := p.journals.set i.toNat p.journals[p.active.toNat]!) (a := i.toNat) (o := p.active.toNat) (by omega) (by omega) (by rw [hji]; exact hja) (by rw [hj]; exact hja)
      refine ⟨⟨hn, ⟨by simp [s1], by simp [s2], by simp [s3], h2.1, h2.2⟩, hg, .inr (who_mk ?_ ?_ ?_ ?_)⟩, h.gok, h.next, h.held, h.short, h.mnext, h.mfree, h.mtak, fun _ => ⟨e1, e2, fun j hj2 hs => ?_⟩, fun hc => absurd hc (by show ¬ p.active < 0; omega)⟩
      · show (p.up.set i.toNat true)[p.active.toNat]! = true
        rw [set_ne _ _ hne]; exact w1
      · show (p.sync.set i.toNat true)[p.active.toNat]! = true
        rw [set_ne _ _ hne]; exact w2
      · show (sRec (p.journals.set i.toNat p.journals[p.active.toNat]!)[p.active.toNat]!).2 = _
        rw [hj]; exact w3
      · show sReb (sRec (p.journals.set i.toNat p.journals[p.active.toNat]!)[p.active.toNat]!).1 = (p.gateway, p.epoch, 0)
        rw [hj, w4, e1, e2]
      · show (p.journals.set i.toNat p.journals[p.active.toNat]!)[j]! = (p.journals.set i.toNat p.journals[p.active.toNat]!)[p.active.toNat]!
        rw [hj]
        rcases (by omega : j = i.toNat ∨ j = p.active.toNat) with rfl | rfl
        · exact hji
        · exact hj
    · rw [if_neg ha, if_neg ha]
      exact ⟨⟨hn, ⟨by simp [s1], s2, s3, s4, s5⟩, hg, .inl (by show p.active < 0; omega)⟩, h.gok, h.next, h.held, h.short, h.mnext, h.mfree, h.mtak, fun hc => absurd hc ha, h.idle⟩
theorem Inv.tear (h : Inv p g ep out) (n : Note) (f s : Int) : Inv (sTear p n f s).1 g ep out := by
  unfold sTear
  split
  · exact h
  · rename_i c
    obtain ⟨k1, ha, k3, k4⟩ := wrE_0 (Classical.byContradiction c)
    obtain ⟨hb, hl, hk⟩ := sApp_0 k4
    obtain ⟨s1, s2, s3, s4, s5⟩ := h.ok.2.1
    have a1 := h.a1
    obtain ⟨w1, w2, w3, w4⟩ := h.who ha
    obtain ⟨e1, e2, e3⟩ := h.act ha
    have hja := two_le s3 s4 s5 (a := p.active.toNat) (by omega)
    have hjo := two_le s3 s4 s5 (a := (1 - p.active).toNat) (by omega)
    have hne : p.active.toNat ≠ (1 - p.active).toNat := by omega
    have el := encB_len n
    have cl := cutK_len f (encB n)
    have cut : ∀ k : Int, ∃ c, c < (encB n).length ∧ cutK k (encB n) = (encB n).take c := fun k => ⟨_, by omega, rfl⟩
    show Inv (teP p n f s) g ep out
    obtain ⟨q, hq⟩ : ∃ q, (if p.up[(1 - p.active).toNat]! then (p.journals.set p.active.toNat (p.journals[p.active.toNat]! ++ cutK f (encB n))).set (1 - p.active).toNat (bhd p.journals[(1 - p.active).toNat]! (cutK s (encB n))) else p.journals.set p.active.toNat (p.journals[p.active.toNat]! ++ cutK f (encB n))) = q := ⟨_, rfl⟩
    have hT : teP p n f s = dnP { p with journals := q } := by unfold teP; rw [hq]
    have q2 : q.length = 2 := by rw [← hq]; split <;> simp [s3]
    have qa : q[p.active.toNat]! = p.journals[p.active.toNat]! ++ cutK f (encB n) := by
      rw [← hq]
      split
      · rw [set_ne _ _ hne.symm, set_at _ _ (by omega)]
      · rw [set_at _ _ (by omega)]
    have qo : q[(1 - p.active).toNat]! = if p.up[(1 - p.active).toNat]! then bhd p.journals[(1 - p.active).toNat]! (cutK s (encB n)) else p.journals[(1 - p.active).toNat]! := by
      rw [← hq]
      split
      · rw [set_at _ _ (by rw [List.length_set]; omega)]
      · rw [set_ne _ _ hne]
    have la : q[p.active.toNat]!.length ≤ 262144 := by rw [qa, List.length_append]; omega
    have lo : q[(1 - p.active).toNat]!.length ≤ 262144 := by
      rw [qo]
      split
      · exact bhd_len _ _
      · exact hjo
    have ll := two_mk (q := q) (a := p.active.toNat) (o := (1 - p.active).toNat) (by omega) (by omega) la lo
    rw [hT]
    refine ⟨ok_down h.ok q2 ll.1 ll.2, h.gok, h.next, h.held, h.short, h.mnext, h.mfree, h.mtak, fun hc => absurd hc (by show ¬ (0 : Int) ≤ -1; omega), fun _ j hj hs => ?_⟩
    show sReb (sRec q[j]!).1 = _
    rcases (by omega : j = p.active.toNat ∨ j = (1 - p.active).toNat) with rfl | rfl
    · obtain ⟨c, hc1, hc2⟩ := cut f
      rw [qa, hc2, rec_torn w3 hk hc1]
      exact w4
    · have hs : p.sync[(1 - p.active).toNat]! = true := hs
      have ej := e3 _ hj hs
      rw [qo, ej]
      split
      · obtain ⟨c, hc1, hc2⟩ := cut s
        have : bhd p.journals[p.active.toNat]! (cutK s (encB n)) = p.journals[p.active.toNat]! ++ cutK s (encB n) := by
          unfold bhd
          have := cutK_len s (encB n)
          rw [List.take_of_length_le (by rw [List.length_append]; omega)]
        rw [this, hc2, rec_torn w3 hk hc1]
        exact w4
      · exact w4
end
end Go.Proofs.YtdpfglkjhdnbbaaGreat
