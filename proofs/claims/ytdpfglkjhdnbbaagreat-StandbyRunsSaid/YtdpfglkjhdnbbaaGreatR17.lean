/- Standby: what journals tell: plain. -/
import Derived.Test.YtdpfglkjhdnbbaaGreatR16
namespace Go.Proofs.YtdpfglkjhdnbbaaGreat
open Go Go.RowKit Rdn Rdn.Dp
set_option linter.unusedVariables false
set_option linter.unusedSimpArgs false
theorem encB_list (n : Note) : encB n = (6 + (n.bytes.length : Int)) % 256 :: (6 + (n.bytes.length : Int)) / 256 :: n.kind :: n.state :: n.number % 256 :: n.number / 256 % 256 :: n.number / 65536 % 256 :: n.number / 16777216 :: (n.bytes ++ le4 (dadd 2166136261 (core n))) := by
  simp [encB, core, le4]
theorem dec_enc {n : Note} (ok : chkN n = 0) (more : List Int) : sDec (encB n ++ more) = (n, 12 + (n.bytes.length : Int), 0) := by
  obtain ⟨h1, h2, h3, h4, h5, h6, h7⟩ := chkN_0 ok
  have hl : (encB n ++ more).length = 12 + n.bytes.length + more.length := by rw [List.length_append, encB_len]
  have hk : kOf (encB n ++ more) = 6 + (n.bytes.length : Int) := by
    unfold kOf
    rw [encB_list]
    simp only [List.cons_append, List.getElem!_cons_zero, List.getElem!_cons_succ]
    omega
  have hn : noteOf (encB n ++ more) = n := by
    unfold noteOf
    rw [hk, show (6 + (n.bytes.length : Int) + 2).toNat = n.bytes.length + 8 by omega, encB_list]
    simp only [List.cons_append, List.getElem!_cons_zero, List.getElem!_cons_succ, List.take_succ_cons, List.drop_succ_cons, List.drop_zero, List.append_assoc]
    rw [List.take_left' rfl]
    unfold num4
    obtain ⟨k, nu, s, by_⟩ := n
    simp only at h5 h6 ⊢
    congr 1
    omega
  unfold sDec
  rw [hn, hk, hl, if_neg (by omega), if_neg (by omega), if_neg (by omega)]
  have e : (encB n ++ more).take (6 + (n.bytes.length : Int) + 6).toNat = encB n := by
    rw [show (6 + (n.bytes.length : Int) + 6).toNat = 12 + n.bytes.length by omega]
    exact List.take_left' (encB_len n)
  rw [e, if_pos (by unfold sEnc; rw [if_pos ok]; exact ⟨rfl, rfl⟩)]
  congr 2
  omega
theorem sDec_nil : (sDec []).2.2 ≠ 0 := by
  unfold sDec
  rw [if_pos (by simp)]
  simp
theorem dec_short {n : Note} (ok : chkN n = 0) {c : Nat} (hc : c < (encB n).length) : (sDec ((encB n).take c)).2.2 ≠ 0 := by
  obtain ⟨h1, h2, h3, h4, h5, h6, h7⟩ := chkN_0 ok
  have hl := encB_len n
  have hlen : ((encB n).take c).length = c := by rw [List.length_take]; omega
  unfold sDec
  by_cases c2 : c < 2
  · rw [if_pos (by omega)]; simp
  · have hk : kOf ((encB n).take c) = 6 + (n.bytes.length : Int) := by
      have e0 : ((encB n).take c)[0]! = (encB n)[0]! := by simp [List.getElem?_take, show 0 < c by omega]
      have e1 : ((encB n).take c)[1]! = (encB n)[1]! := by simp [List.getElem?_take, show 1 < c by omega]
      unfold kOf
      rw [e0, e1, encB_list]
      simp only [List.getElem!_cons_zero, List.getElem!_cons_succ]
      omega
    rw [if_neg (by omega), if_pos (by rw [hlen, hk]; omega)]
    simp
def jb (ns : List Note) : List Int := (ns.map encB).flatten
theorem jb_nil : jb [] = [] := rfl
theorem jb_cons (n : Note) (l : List Note) : jb (n :: l) = encB n ++ jb l := by simp [jb]
theorem jb_snoc (l : List Note) (n : Note) : jb (l ++ [n]) = jb l ++ encB n := by simp [jb]
def okNs (ns : List Note) : Prop := ∀ x ∈ ns, chkN x = 0
theorem jb_ge : ∀ ns : List Note, 12 * ns.length ≤ (jb ns).length
  | [] => by simp [jb]
  | n :: l => by rw [jb_cons, List.length_append, encB_len, List.length_cons]; have := jb_ge l; omega
theorem recF_run : ∀ (ns : List Note) (f : Nat) (pre rest : List Int) (out : List Note), okNs ns → (sDec rest).2.2 ≠ 0 → ns.length + 1 ≤ f → recF (pre ++ (jb ns ++ rest)) f out pre.length = (out ++ ns, pre.length + (jb ns).length)
  | [], f, pre, rest, out, hn, hr, hf => by
    obtain ⟨f, rfl⟩ : ∃ g, f = g + 1 := ⟨f - 1, by simp at hf; omega⟩
    rw [recF, List.drop_left, jb_nil, List.nil_append, if_pos hr]
    simp
  | n :: l, f, pre, rest, out, hn, hr, hf => by
    rw [List.length_cons] at hf
    obtain ⟨f, rfl⟩ : ∃ g, f = g + 1 := ⟨f - 1, by omega⟩
    have ok := hn n (by simp)
    have ih := recF_run l f (pre ++ encB n) rest (out ++ [n]) (fun x hx => hn x (by simp [hx])) hr (by omega)
    rw [recF, List.drop_left, jb_cons, List.append_assoc, dec_enc ok, if_neg (by simp)]
    dsimp only
    rw [show pre.length + (12 + (n.bytes.length : Int)).toNat = (pre ++ encB n).length by rw [List.length_append, encB_len]; omega]
    rw [List.append_assoc] at ih
    rw [ih, List.append_assoc, List.length_append, List.length_append]
    simp [Nat.add_assoc]
theorem rec_run {ns : List Note} {rest : List Int} (hn : okNs ns) (hr : (sDec rest).2.2 ≠ 0) : sRec (jb ns ++ rest) = (ns, (jb ns).length) := by
  have h := recF_run ns ((jb ns ++ rest).length + 1) [] rest [] hn hr (by rw [List.length_append]; have := jb_ge ns; omega)
  unfold sRec
  simpa using h
theorem rec_jb {ns : List Note} (hn : okNs ns) : sRec (jb ns) = (ns, (jb ns).length) := by
  have h := rec_run hn sDec_nil
  rwa [List.append_nil] at h
theorem dec_inv {b : List Int} (h : (sDec b).2.2 = 0) : chkN (sDec b).1 = 0 ∧ b.take (sDec b).2.1.toNat = encB (sDec b).1 ∧ (sDec b).2.1.toNat ≤ b.length := by
  have h0 := sDec_ok b h
  refine ⟨?_, ?_, by omega⟩ <;>
  · unfold sDec at h ⊢
    split at h
    · simp at h
    · rename_i c1
      rw [if_neg c1]
      split at h
      · simp at h
      · rename_i c2
        rw [if_neg c2]
        split at h
        · simp at h
        · rename_i c3
          rw [if_neg c3]
          split at h
          · rename_i c4
            rw [if_pos c4]
            dsimp only
            have ok : chkN (noteOf b) = 0 := by
              have := c4.1
              unfold sEnc at this
              split at this
              · assumption
              · exact this
            first
            | exact ok
            | (have := c4.2
               unfold sEnc at this
               rw [if_pos ok] at this
               exact this.symm)
          · simp at h
theorem recF_inv (j : List Int) : ∀ (f : Nat) (out : List Note) (p : Nat), p ≤ j.length → okNs out → j.take p = jb out → okNs (recF j f out p).1 ∧ j.take (recF j f out p).2 = jb (recF j f out p).1 ∧ (recF j f out p).2 ≤ j.length
  | 0, out, p, h1, h2, h3 => ⟨h2, h3, h1⟩
  | f + 1, out, p, h1, h2, h3 => by
    rw [recF]
    split
    · exact ⟨h2, h3, h1⟩
    · rename_i c
      have c : (sDec (j.drop p)).2.2 = 0 := Classical.byContradiction c
      obtain ⟨k1, k2, k3⟩ := dec_inv c
      rw [List.length_drop] at k3
      refine recF_inv j f _ _ (by omega) (fun x hx => ?_) ?_
      · rcases List.mem_append.1 hx with hx | hx
        · exact h2 x hx
        · rw [List.mem_singleton] at hx; subst hx; exact k1
      · rw [jb_snoc, ← k2, ← h3, List.take_add]
theorem rec_inv (j : List Int) : okNs (sRec j).1 ∧ j.take (sRec j).2 = jb (sRec j).1 ∧ (sRec j).2 ≤ j.length := recF_inv j _ [] 0 (by simp) (fun x hx => by cases hx) rfl
theorem rec_snoc {j : List Int} {n : Note} (h : (sRec j).2 = j.length) (ok : chkN n = 0) : sRec (j ++ encB n) = ((sRec j).1 ++ [n], (j ++ encB n).length) := by
  obtain ⟨h1, h2, h3⟩ := rec_inv j
  rw [h, List.take_length] at h2
  have e : j ++ encB n = jb ((sRec j).1 ++ [n]) := by rw [jb_snoc, ← h2]
  have hn : okNs ((sRec j).1 ++ [n]) := fun x hx => by
    rcases List.mem_append.1 hx with hx | hx
    · exact h1 x hx
    · rw [List.mem_singleton] at hx; subst hx; exact ok
  rw [e, rec_jb hn]
theorem rec_torn {j : List Int} {n : Note} {c : Nat} (h : (sRec j).2 = j.length) (ok : chkN n = 0) (hc : c < (encB n).length) : sRec (j ++ (encB n).take c) = ((sRec j).1, j.length) := by
  obtain ⟨h1, h2, h3⟩ := rec_inv j
  rw [h, List.take_length] at h2
  have := rec_run h1 (dec_short ok hc)
  rw [← h2] at this
  exact this
theorem rebF_snoc : ∀ (l : List Note) (g : Gateway) (e : Int) (n : Note), (rebF g e l).2.2 = 0 → rebF g e (l ++ [n]) = if (effS (rebF g e l).1 (rebF g e l).2.1 n).2.2 = 0 then ((effS (rebF g e l).1 (rebF g e l).2.1 n).1, (effS (rebF g e l).1 (rebF g e l).2.1 n).2.1, 0) else (g0, 0, (effS (rebF g e l).1 (rebF g e l).2.1 n).2.2)
  | [], g, e, n, h => by
    show rebF g e [n] = if (effS g e n).2.2 = 0 then ((effS g e n).1, (effS g e n).2.1, 0) else (g0, 0, (effS g e n).2.2)
    rw [rebF, rebF]
  | m :: l, g, e, n, h => by
    rw [List.cons_append, rebF]
    rw [rebF] at h
    by_cases c : (effS g e m).2.2 = 0
    · rw [if_pos c] at h ⊢
      rw [rebF_snoc l _ _ n h, rebF, if_pos c]
    · rw [if_neg c] at h
      exact absurd h c
theorem sReb_snoc {l : List Note} {g : Gateway} {e : Int} (n : Note) (h : sReb l = (g, e, 0)) : sReb (l ++ [n]) = if (effS g e n).2.2 = 0 then ((effS g e n).1, (effS g e n).2.1, 0) else (g0, 0, (effS g e n).2.2) := by
  have := rebF_snoc l g0 0 n (by show (sReb l).2.2 = 0; rw [h])
  unfold sReb at h ⊢
  rw [this]
  simp only [h]
end Go.Proofs.YtdpfglkjhdnbbaaGreat
