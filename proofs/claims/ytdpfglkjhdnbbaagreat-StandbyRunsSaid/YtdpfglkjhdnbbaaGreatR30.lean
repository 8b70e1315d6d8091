/- Standby: what sends, ticks and notes keep: plain. -/
import Derived.Test.YtdpfglkjhdnbbaaGreatR29
namespace Go.Proofs.YtdpfglkjhdnbbaaGreat
open Go Go.RowKit Rdn Rdn.Dp
set_option linter.unusedVariables false
set_option linter.unusedSimpArgs false
section
variable {p : Pair} {g : Gateway} {ep : Int} {out : List Output}
theorem take_at {α : Type} [Inhabited α] {l : List α} {k : Nat} (h : k < l.length) : l.take k ++ [l[k]!] = l.take (k + 1) := (take_snoc h).symm
theorem take_inv {m : Mailbox} {o : Output} {e : Int} {fr : Int} (h1 : m.next = m.taken.length) (h2 : m.next ≤ fr) (h3 : m.taken = out.take m.taken.length) (hf : fr ≤ out.length) (ho : ∀ j : Nat, o.seq = j → (j : Int) < fr ∧ o = out[j]!) : (sTake m e o).1.next = (sTake m e o).1.taken.length ∧ (sTake m e o).1.next ≤ fr ∧ (sTake m e o).1.taken = out.take (sTake m e o).1.taken.length := by
  unfold sTake
  split
  · exact ⟨h1, h2, h3⟩
  · split
    · exact ⟨h1, h2, h3⟩
    · split
      · exact ⟨h1, h2, h3⟩
      · split
        · exact ⟨h1, h2, h3⟩
        · rename_i c1 c2 c3 c4
          have hs : o.seq = m.taken.length := by omega
          obtain ⟨k1, k2⟩ := ho _ hs
          refine ⟨by simp; omega, by dsimp only; omega, ?_⟩
          simp only [List.length_append, List.length_cons, List.length_nil]
          rw [← take_at (by omega), ← h3, ← k2]
theorem tkF_inv {e : Int} {fr : Int} (hf : fr ≤ out.length) : ∀ (l : List Output) (m : Mailbox) (t : Int), m.next = m.taken.length → m.next ≤ fr → m.taken = out.take m.taken.length → (∀ o ∈ l, ∀ j : Nat, o.seq = j → (j : Int) < fr ∧ o = out[j]!) → (tkF e m t l).1.next = (tkF e m t l).1.taken.length ∧ (tkF e m t l).1.next ≤ fr ∧ (tkF e m t l).1.taken = out.take (tkF e m t l).1.taken.length
  | [], m, t, h1, h2, h3, _ => ⟨h1, h2, h3⟩
  | o :: l, m, t, h1, h2, h3, ho => by
    rw [tkF]
    obtain ⟨k1, k2, k3⟩ := take_inv (e := e) h1 h2 h3 hf (ho o (by simp))
    exact tkF_inv hf l _ _ k1 k2 k3 fun x hx => ho x (by simp [hx])
theorem Inv.send (h : Inv p g ep out) : Inv (sSnd p).1 g ep out := by
  unfold sSnd
  split
  · exact h
  · rename_i c
    have c : sndE p = 0 := Classical.byContradiction c
    have ha : 0 ≤ p.active := by
      unfold sndE at c
      split at c
      · rename_i c1; exact absurd c c1
      · split at c
        · cases c
        · omega
    obtain ⟨e1, e2, e3⟩ := h.act ha
    obtain ⟨a1, a2, a3, a4, a5, a6⟩ := h.gok.1
    have hn := h.next
    have hh := h.held
    have hl : (sSend p.gateway).1 = g.held.take (g.free - g.acked).toNat := by
      rw [e1]; unfold sSend; rw [chk_T h.gok, if_neg (by decide)]
    obtain ⟨k1, k2, k3⟩ := tkF_inv (out := out) (e := p.epoch) (fr := g.free) (by omega) (sSend p.gateway).1 p.mailbox 0 h.mnext h.mfree h.mtak (fun o ho j hj => by
      rw [hl] at ho
      obtain ⟨i, hi, rfl⟩ := List.mem_iff_getElem.1 ho
      rw [List.length_take] at hi
      have e4 : (g.held.take (g.free - g.acked).toNat)[i] = g.held[i]! := by
        rw [List.getElem_take, List.getElem!_eq_getElem?_getD, List.getElem?_eq_getElem (by omega)]; rfl
      rw [e4] at hj ⊢
      have e5 := (h.gok.2 i (by omega)).1
      have e6 : g.held[i]! = out[g.acked.toNat + i]! := by rw [hh]; simp [List.getElem?_drop]
      have e7 : j = g.acked.toNat + i := by omega
      exact ⟨by omega, by rw [e6, e7]⟩)
    refine ⟨okPr_mb h.ok _, h.gok, h.next, h.held, h.short, k1, k2, k3, h.act, h.idle⟩
theorem Inv.tick (h : Inv p g ep out) : ((sTick p).2.1 = false ∧ Inv (sTick p).1 g ep out) ∨ ((sTick p).2.1 = true ∧ (sTick p).1.gateway = g ∧ (sTick p).1.epoch = ep + 1 ∧ Inv (sTick p).1 g (ep + 1) out) := by
  have c1 := chkP_0 h.ok
  obtain ⟨hn, ⟨s1, s2, s3, s4, s5⟩, hg, hw⟩ := h.ok
  have hn' := hn
  obtain ⟨n1, n2, n3, n4, n5, n6, n7, n8⟩ := hn
  by_cases ha : 0 ≤ p.active
  · rw [sTick_a c1 ha]
    refine .inl ⟨rfl, ⟨⟨n1, n2, by show (0 : Int) ≤ 0; omega, by show (0 : Int) ≤ p.wait; omega, n5, n6, n7, n8⟩, ⟨s1, s2, s3, s4, s5⟩, hg, hw⟩, h.gok, h.next, h.held, h.short, h.mnext, h.mfree, h.mtak, h.act, h.idle⟩
  have hsl : Inv (slP p) g ep out := ⟨⟨⟨n1, n2, by show 0 ≤ min (p.silent + 1) p.wait; omega, by show min (p.silent + 1) p.wait ≤ p.wait; omega, n5, n6, n7, n8⟩, ⟨s1, s2, s3, s4, s5⟩, hg, hw⟩, h.gok, h.next, h.held, h.short, h.mnext, h.mfree, h.mtak, h.act, h.idle⟩
  by_cases c2 : min (p.silent + 1) p.wait = p.wait ∧ 0 ≤ nxtP p
  rotate_left
  · rw [sTick_w c1 ha c2]
    exact .inl ⟨rfl, hsl⟩
  rw [sTick_o c1 ha c2.1 c2.2]
  have hi : nxtP p = 0 ∨ nxtP p = 1 := by have := nxtP_r p; omega
  have hus : p.up[(nxtP p).toNat]! = true ∧ p.sync[(nxtP p).toNat]! = true := by
    unfold nxtP at c2 ⊢
    split
    · rename_i c; exact c
    · rename_i c
      rw [if_neg c] at c2
      split
      · rename_i c'; exact c'
      · rename_i c'; rw [if_neg c'] at c2; exact absurd c2.2 (by decide)
  generalize nxtP p = i at *
  by_cases c3 : ovOk (slP p) i
  rotate_left
  · rw [sOver_no c3]
    exact .inl ⟨rfl, hsl⟩
  rw [sOver_ok c3]
  obtain ⟨o1, o2, o3⟩ := c3
  have hG : ovG (slP p) i = (g, ep, 0) := h.idle (by omega) i.toNat (by omega) hus.2
  have hB : ovB (slP p) i = sApp (p.journals[i.toNat]!.take (sRec p.journals[i.toNat]!).2) (nt5k (ep + 1)) := by unfold ovB; rw [hG]
  rw [hB] at o3
  rw [hG] at o2
  dsimp only at o2
  obtain ⟨b1, b2, b3⟩ := sApp_0 o3
  rw [← hB] at b1
  obtain ⟨r1, r2, r3⟩ := rec_inv p.journals[i.toNat]!
  have e2 : sRec (p.journals[i.toNat]!.take (sRec p.journals[i.toNat]!).2) = ((sRec p.journals[i.toNat]!).1, (p.journals[i.toNat]!.take (sRec p.journals[i.toNat]!).2).length) := by
    rw [r2]; exact rec_jb r1
  have e3 := rec_snoc (j := p.journals[i.toNat]!.take (sRec p.journals[i.toNat]!).2) (n := nt5k (ep + 1)) (by rw [e2]) b3
  rw [e2, ← b1] at e3
  have e4 : sReb (sRec (ovB (slP p) i).1).1 = (g, ep + 1, 0) := by
    rw [e3]
    exact reb_nt5k (h.idle (by omega) i.toNat (by omega) hus.2) o2
  have e5 : (sRec (ovB (slP p) i).1).2 = (ovB (slP p) i).1.length := by rw [e3]
  have e6 : (ovB (slP p) i).1.length ≤ 262144 := by rw [hB]; exact sApp_len _ _
  have hne : i.toNat ≠ (1 - i).toNat := by omega
  have hjo := two_le s3 s4 s5 (a := (1 - i).toNat) (by omega)
  obtain ⟨q, hq⟩ : ∃ q, (if p.up[(1 - i).toNat]! then (p.journals.set i.toNat (ovB (slP p) i).1).set (1 - i).toNat (ovB (slP p) i).1 else p.journals.set i.toNat (ovB (slP p) i).1) = q := ⟨_, rfl⟩
  have hT : ovP (slP p) i = { p with journals := q, sync := p.sync.set (1 - i).toNat p.up[(1 - i).toNat]!, active := i, epoch := ep + 1, gateway := g, silent := 0 } := by
    unfold ovP
    rw [hG, ← hq]
  have q2 : q.length = 2 := by rw [← hq]; split <;> simp [s3]
  have qa : q[i.toNat]! = (ovB (slP p) i).1 := by
    rw [← hq]
    split
    · rw [set_ne _ _ hne.symm, set_at _ _ (by omega)]
    · rw [set_at _ _ (by omega)]
  have qo : q[(1 - i).toNat]! = if p.up[(1 - i).toNat]! then (ovB (slP p) i).1 else p.journals[(1 - i).toNat]! := by
    rw [← hq]
    split
    · rw [set_at _ _ (by rw [List.length_set]; omega)]
    · rw [set_ne _ _ hne]
  have ll := two_mk (q := q) (a := i.toNat) (o := (1 - i).toNat) (by omega) (by omega) (by rw [qa]; exact e6) (by rw [qo]; split <;> first | exact e6 | exact hjo)
  have hsi : (p.sync.set (1 - i).toNat p.up[(1 - i).toNat]!)[i.toNat]! = true := by rw [set_ne _ _ hne.symm]; exact hus.2
  have n9 : 0 ≤ ep := by
    have := (sReb_epr (sRec p.journals[i.toNat]!).1).1
    rw [h.idle (by omega) i.toNat (by omega) hus.2] at this
    exact this
  rw [hT]
  refine .inr ⟨rfl, rfl, rfl, ⟨⟨n1, n2, by show (0 : Int) ≤ 0; omega, by show (0 : Int) ≤ p.wait; omega, by show -1 ≤ i; omega, by show i ≤ 1; omega, by show 0 ≤ ep + 1; omega, by show ep + 1 ≤ 1048576; omega⟩, ⟨s1, by show (p.sync.set _ _).length = 2; rw [List.length_set]; exact s2, q2, ll.1, ll.2⟩, chk_T h.gok, .inr (who_mk ?_ ?_ ?_ ?_)⟩, h.gok, h.next, h.held, h.short, h.mnext, h.mfree, h.mtak, fun _ => ⟨rfl, rfl, fun j hj hs => ?_⟩, fun hc => absurd hc (by show ¬ i < 0; omega)⟩
  · exact hus.1
  · exact hsi
  · show (sRec q[i.toNat]!).2 = q[i.toNat]!.length
    rw [qa]; exact e5
  · show sReb (sRec q[i.toNat]!).1 = (g, ep + 1, 0)
    rw [qa]; exact e4
  · show q[j]! = q[i.toNat]!
    rcases (by omega : j = i.toNat ∨ j = (1 - i).toNat) with rfl | rfl
    · rfl
    · have hs : (p.sync.set (1 - i).toNat p.up[(1 - i).toNat]!)[(1 - i).toNat]! = true := hs
      rw [set_at _ _ (by omega)] at hs
      rw [qo, if_pos hs, qa]
def outN (out : List Output) (g x : Gateway) : List Output := if x.next > g.next ∧ 0 < x.held.length then out ++ [x.held[x.held.length - 1]!] else out
theorem eff_out (gok : okG g) (next : g.next = out.length) (held : g.held = out.drop g.acked.toNat) (short : shortO 16 out) {e : Int} {n : Note} (hE : (effS g e n).2.2 = 0) : okG (effS g e n).1 ∧ (effS g e n).1.next = (outN out g (effS g e n).1).length ∧ (effS g e n).1.held = (outN out g (effS g e n).1).drop (effS g e n).1.acked.toNat ∧ shortO 16 (outN out g (effS g e n).1) ∧ g.free ≤ (effS g e n).1.free ∧ ∃ m, outN out g (effS g e n).1 = out ++ m := by
  have ok := effS_ok (e := e) (n := n) gok
  obtain ⟨a1, a2, a3, a4, a5, a6⟩ := gok.1
  have hc : ¬ chk g = 1 := by rw [chk_T gok]; decide
  have same : ∀ x : Gateway, x.next = g.next → outN out g x = out := fun x hx => if_neg (fun h => by omega)
  refine ⟨ok, ?_⟩
  unfold effS at hE ok ⊢
  by_cases k6 : n.kind = 6
  · rw [if_pos k6] at hE ok ⊢
    by_cases kb : okB n.bytes
    · rw [if_pos kb] at hE ok ⊢
      dsimp only at hE ok ⊢
      unfold sOff at hE ok ⊢
      rw [if_neg hc] at hE ok ⊢
      by_cases d1 : n.bytes[0]! < 0 ∨ n.bytes[0]! ≥ 2 ∨ (cellsOf n.bytes n.bytes[1]!.toNat).length > 16
      · rw [if_pos d1] at hE; cases hE
      · rw [if_neg d1] at hE ok ⊢
        by_cases d2 : g.next = 200 ∨ g.held.length = 64
        · rw [if_pos d2] at hE; cases hE
        · rw [if_neg d2] at hE ok ⊢
          dsimp only at hE ok ⊢
          have hO : outN out g ⟨g.next + 1, g.free, g.acked, g.held ++ [⟨g.next, n.bytes[0]!, cellsOf n.bytes n.bytes[1]!.toNat⟩]⟩ = out ++ [⟨g.next, n.bytes[0]!, cellsOf n.bytes n.bytes[1]!.toNat⟩] := by
            unfold outN
            rw [if_pos ⟨by dsimp only; omega, by simp⟩]
            simp
          rw [hO]
          refine ⟨by simp; omega, ?_, ?_, Int.le_refl _, _, rfl⟩
          · rw [held, List.drop_append_of_le_length (by omega)]
          · intro x hx
            rcases List.mem_append.1 hx with hx | hx
            · exact short x hx
            · rw [List.mem_singleton] at hx; subst hx; dsimp only; omega
    · rw [if_neg kb] at hE; cases hE
  · rw [if_neg k6] at hE ok ⊢
    by_cases k3 : n.kind = 3
    · rw [if_pos k3] at hE ok ⊢
      dsimp only at hE ok ⊢
      unfold sFree at hE ok ⊢
      rw [if_neg hc] at hE ok ⊢
      by_cases d1 : n.number < g.free ∨ n.number > g.next
      · rw [if_pos d1] at hE; cases hE
      · rw [if_neg d1] at hE ok ⊢
        have hs := same ⟨g.next, n.number, g.acked, g.held⟩ rfl
        dsimp only
        rw [hs]
        exact ⟨next, held, short, by omega, [], by simp⟩
    · rw [if_neg k3] at hE ok ⊢
      by_cases k4 : n.kind = 4
      · rw [if_pos k4] at hE ok ⊢
        dsimp only at hE ok ⊢
        unfold sAck at hE ok ⊢
        rw [if_neg hc] at hE ok ⊢
        by_cases d1 : n.number < g.acked ∨ n.number > g.free
        · rw [if_pos d1] at hE; cases hE
        · rw [if_neg d1] at hE ok ⊢
          have hs := same ⟨g.next, g.free, n.number, g.held.drop (n.number - g.acked).toNat⟩ rfl
          dsimp only
          rw [hs]
          refine ⟨next, ?_, short, Int.le_refl _, [], by simp⟩
          rw [held, List.drop_drop]
          congr 1
          omega
      · rw [if_neg k4] at hE ok ⊢
        have e5 : ∀ x : Gateway × Int × Int, x.1 = g → x.1.next = (outN out g x.1).length ∧ x.1.held = (outN out g x.1).drop x.1.acked.toNat ∧ shortO 16 (outN out g x.1) ∧ g.free ≤ x.1.free ∧ ∃ m, outN out g x.1 = out ++ m := fun x hx => by
          rw [hx, same _ rfl]
          exact ⟨next, held, short, Int.le_refl _, [], by simp⟩
        apply e5
        split
        · split <;> rfl
        · rfl
theorem Inv.write (h : Inv p g ep out) (n : Note) (hE : (sWr p n).2 = 0) : Inv (sWr p n).1 (sWr p n).1.gateway ep (outN out g (sWr p n).1.gateway) := by
  have hE' : wrE p n = 0 := by
    unfold sWr at hE
    split at hE
    · rename_i c; exact absurd hE c
    · rename_i c; exact Classical.byContradiction c
  rw [sWr_0 hE']
  obtain ⟨k1, ha, k3, k4⟩ := wrE_0 hE'
  obtain ⟨r1, r2, r3⟩ := wr_reb h.ok ha k4
  obtain ⟨w1, w2, w3, w4⟩ := h.who ha
  obtain ⟨e1, e2, e3⟩ := h.act ha
  have hF : (effS p.gateway p.epoch n).2.2 = 0 := by
    refine Classical.byContradiction fun c => c ?_
    unfold wrE at hE'
    rw [if_neg (by simp [k1]), if_neg (by omega), if_neg k3, if_neg (fun c => c k4), r3, if_neg c] at hE'
    exact hE'
  obtain ⟨t1, t2, t3, t4⟩ := wr_step h.ok ha k3 k4 hF
  rw [e1, e2] at t2
  rw [e1, e2] at hF
  obtain ⟨u1, u2, u3, u4, u5, m, u6⟩ := eff_out h.gok h.next h.held h.short hF
  obtain ⟨s1, s2, s3, s4, s5⟩ := h.ok.2.1
  have a1 := h.a1
  have hne : p.active.toNat ≠ (1 - p.active).toNat := by omega
  dsimp only
  rw [t2]
  refine ⟨t3, u1, u2, u3, u4, h.mnext, Int.le_trans h.mfree u5, ?_, fun _ => ⟨t2, e2, fun j hj hs => ?_⟩, fun hc => absurd hc (by show ¬ p.active < 0; omega)⟩
  · show p.mailbox.taken = (outN out g (effS g ep n).1).take p.mailbox.taken.length
    have h1 := h.mtak
    have h2 := h.mfree
    have h3 := h.mnext
    have h4 := h.next
    obtain ⟨b1, b2, b3, b4, b5, b6⟩ := h.gok.1
    rw [u6, List.take_append_of_le_length (by omega)]
    exact h1
  · show (wrP p n).journals[j]! = (wrP p n).journals[p.active.toNat]!
    rw [t4]
    obtain ⟨k5, k6, k7⟩ := sApp_0 k4
    rcases (by omega : j = p.active.toNat ∨ j = (1 - p.active).toNat) with rfl | rfl
    · exact t4
    · have hs : (if p.up[(1 - p.active).toNat]! then p.sync else p.sync.set (1 - p.active).toNat false : List Bool)[(1 - p.active).toNat]! = true := hs
      by_cases hu : p.up[(1 - p.active).toNat]! = true
      · rw [if_pos hu] at hs
        show (if p.up[(1 - p.active).toNat]! then _ else _ : List (List Int))[(1 - p.active).toNat]! = _
        rw [if_pos hu, set_at _ _ (by rw [List.length_set]; omega), e3 _ hj hs]
        unfold bhd
        rw [List.take_of_length_le (by rw [List.length_append, encB_len]; omega)]
      · rw [if_neg hu, set_at _ _ (by omega)] at hs
        cases hs
theorem inv_new {w : Int} (h1 : 1 ≤ w) (h2 : w ≤ 1000) : Inv (pN w) g0 1 [] := by
  have hr := reb_nt5
  refine ⟨new_ok h1 h2, g0_ok, rfl, rfl, fun o ho => (by cases ho), rfl, by show (0 : Int) ≤ 0; omega, rfl, fun _ => ⟨rfl, rfl, fun i hi _ => ?_⟩, fun hc => absurd hc (by show ¬ (0 : Int) < 0; omega)⟩
  show [jn0, jn0][i]! = [jn0, jn0][(0 : Int).toNat]!
  rcases (by omega : i = 0 ∨ i = 1) with rfl | rfl <;> rfl
end
end Go.Proofs.YtdpfglkjhdnbbaaGreat
