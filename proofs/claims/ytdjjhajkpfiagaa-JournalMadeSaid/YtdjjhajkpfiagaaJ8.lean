/- Journals: what is equal; a note is read back. -/
import Derived.Test.YtdjjhajkpfiagaaGJ
import Derived.Test.YtdjjhajkpfiagaaC5
namespace Go.Proofs.Ytdjjhajkpfiagaa
open Go Go.RowKit Rdn Rdn.Dp
set_option linter.unusedVariables false
set_option linter.unusedSimpArgs false
theorem m_same_ok : compF Try.prog 20 = some (33, Qr ([Qw 2 (.box 34 (.t 0)), Qw 3 (.box 34 (.t 1)), Qc 4 (.bool false)])
 (Qr ([Qf 5 0 0 2, Ql 6 1 5, Qf 7 0 0 3, Ql 8 1 7, Qb 9 .eql 6 8, Qm 10 9, Q1 11 10 (.fieldA 1 1 (.t 2)), Q1 12 10 (.load false 1 (.t 11)), Q1 13 10 (.fieldA 1 1 (.t 3)), Q1 14 10 (.load false 1 (.t 13)), Q1 15 10 (.bin 0 .eql (.t 12) (.t 14)), Qu 16 10 15, Qm 17 16, Q1 18 17 (.fieldA 2 2 (.t 2)), Q1 19 17 (.load false 1 (.t 18)), Q1 20 17 (.fieldA 2 2 (.t 3)), Q1 21 17 (.load false 1 (.t 20)), Q1 22 17 (.bin 0 .eql (.t 19) (.t 21)), Qu 23 17 22, Qm 24 23, Q1 25 24 (.fieldA 3 3 (.t 2)), Q1 26 24 (.load false 1 (.t 25)), Q1 27 24 (.b2s (.t 26)), Q1 28 24 (.fieldA 3 3 (.t 3)), Q1 29 24 (.load false 1 (.t 28)), Q1 30 24 (.b2s (.t 29)), Q1 31 24 (.bin 0 .eql (.t 27) (.t 30)), Qu 32 24 31, Qm 4 32])
 (.ret)), [.mov (.t 4)]) := by kernel_rfl
theorem m_sameall_ok : compF Try.prog 43 = some (27, Qr ([Qc 4 (.bool false)])
 (.seq (Qr ([Qm 6 0, Qn 7 6, Qm 8 1, Qn 9 8, Qb 10 .neq 7 9])
 (.cond (.t 10) (Qr ([Qc 4 (.bool false)])
 (.ret)) (.skip)))
 (.seq (Qr ([Qp 5 (.mov (Qi 0))])
 (.block 0 (.loop (.seq (Qr ([Qm 11 5, Qm 12 0, Qn 13 12, Qb 14 .lss 11 13])
 (.cond (.t 14) (.skip) (.exit 0)))
 (.seq (.block 1 (.seq (.dreg [Qm 17 0, Qm 18 5, Qx 19 4 17 18, QL 20 4 19, Qm 21 1, Qm 22 5, Qx 23 4 21 22, QL 24 4 23, Qq 25 20 [(.t 20), (.t 24)], Qp 26 (.un .not (.t 25))] [[], [], [0, 1], [0, 1, 2], [], [], [4, 5], [4, 5, 6], [0, 1, 2, 3, 4, 5, 6, 7], [0, 1, 2, 3, 4, 5, 6, 7, 8]])
 (.cond (.t 26) (Qr ([Qc 4 (.bool false)])
 (.ret)) (.skip))))
 (.reg [Qm 15 5, Qk 16 .add 15 1, Qm 5 16]))))))
 (Qr ([Qc 4 (.bool true)])
 (.ret)))), [.mov (.t 4)]) := by kernel_rfl
theorem note_ext {a b : Note} (h1 : a.kind = b.kind) (h2 : a.number = b.number) (h3 : a.state = b.state) (h4 : a.bytes = b.bytes) : a = b := by
  obtain ⟨a1, a2, a3, a4⟩ := a
  obtain ⟨b1, b2, b3, b4⟩ := b
  simp only at h1 h2 h3 h4
  rw [h1, h2, h3, h4]
attribute [local go_sem] numV_u8s
set_option maxHeartbeats 4000000 in
theorem same_fn (a b : Note) : Fnc Try.prog 20 [.agg (noteL false a), .agg (noteL false b)] (fun x obs => x = .bool (decide (a = b)) ∧ obs = []) := by
  refine Fnc.wf fun hw => ?_
  simp only [noteL, V.wfs, V.wf, wfs_map, List.length_map] at hw
  have be := str_beq hw.1.2.2.2.1.1 hw.2.1.2.2.2.1.1
  clear hw
  by_cases c1 : a.kind = b.kind
  · by_cases c2 : a.number = b.number
    · by_cases c3 : a.state = b.state
      · have e : decide (a = b) = decide (a.bytes = b.bytes) := by
          by_cases h : a.bytes = b.bytes
          · rw [decT h, decT (note_ext c1 c2 c3 h)]
          · rw [decF h, decF (fun h' => h (by rw [h']))]
        rw [e, ← be]
        refine zgo m_same_ok fun W S => ?_
        exact zrt m_same_ok
      · rw [decF (p := a = b) (fun h => c3 (by rw [h]))]
        refine zgo m_same_ok fun W S => ?_
        exact zrt m_same_ok
    · rw [decF (p := a = b) (fun h => c2 (by rw [h]))]
      refine zgo m_same_ok fun W S => ?_
      exact zrt m_same_ok
  · rw [decF (p := a = b) (fun h => c1 (by rw [h]))]
    refine zgo m_same_ok fun W S => ?_
    exact zrt m_same_ok
theorem same_refl (a : Note) : Fnc Try.prog 20 [.agg (noteL false a), .agg (noteL false a)] (fun x obs => x = .bool true ∧ obs = []) := by
  have h := same_fn a a
  rwa [decT rfl] at h
set_option maxHeartbeats 4000000 in
theorem sameall_fn (a : List Note) : Fnc Try.prog 43 [.sl false 4 (a.map (noteV false)), .sl false 4 (a.map (noteV false))] (fun x obs => x = .bool true ∧ obs = []) := by
  refine Fnc.wf fun hw => ?_
  simp only [V.wfs, V.wf, List.length_map] at hw
  have hm := hw.1.2
  clear hw
  refine zgo m_sameall_ok fun W S => ?_
  refine ev_loopK [0, 1] (fun p : {p : Nat // p ≤ a.length} => [(5, .int .i64 p.1)]) (fun _ => []) (fun p => a.length - p.1) (⟨0, by simp⟩) 0 (by simp only [go_sem]; rfl) ?_ (by first | rfl | (simp only [go_sem]; done)) (by simp) (by first | rfl | (simp only [go_sem]; done)) (by first | rfl | (simp only [go_sem]; done)) (by first | rfl | (simp only [go_sem]; done)) ?_
  · (simp only [go_sem]; (try simp []); done)
  intro J hJ
  rintro ⟨k, hk0⟩
  by_cases hlt : k < a.length
  · skip
    refine zst ?_
    refine zcd (same_refl a[k]!) ?_
    exact zn0 (hJ _ (⟨k + 1, hlt⟩) (by first | omega | (dsimp only; omega) | (simp; omega))) hlt
  · obtain rfl : k = a.length := by omega
    refine zst ?_
    exact zrt m_sameall_ok
theorem encB_list (n : Note) : encB n = (6 + (n.bytes.length : Int)) % 256 :: (6 + (n.bytes.length : Int)) / 256 :: n.kind :: n.state :: n.number % 256 :: n.number / 256 % 256 :: n.number / 65536 % 256 :: n.number / 16777216 :: (n.bytes ++ le4 (dadd 2166136261 (core n))) := by
  simp [encB, core, le4]
/-- A note is read back from its bytes, whatever stands behind them. -/
theorem dec_enc {n : Note} (ok : chkN n = 0) (more : List Int) : sDec (encB n ++ more) = (n, 12 + (n.bytes.length : Int), 0) := by
  obtain ⟨h1, h2, h3, h4, h5, h6, h7⟩ := chkN_0 ok
  have hl : (encB n ++ more).length = 12 + n.bytes.length + more.length := by rw [List.length_append, encB_len]
  have hk : kOf (encB n ++ more) = 6 + (n.bytes.length : Int) := by
    unfold kOf
    rw [encB_list]
    simp only [List.cons_append, List.getElem!_cons_zero, List.getElem!_cons_succ]
    omega
  have hn : noteOf (encB n ++ more) = n := by
    unfold noteOf
    rw [hk, show (6 + (n.bytes.length : Int) + 2).toNat = n.bytes.length + 8 by omega, encB_list]
    simp only [List.cons_append, List.getElem!_cons_zero, List.getElem!_cons_succ, List.take_succ_cons, List.drop_succ_cons, List.drop_zero, List.append_assoc]
    rw [List.take_left' rfl]
    unfold num4
    obtain ⟨k, nu, s, by_⟩ := n
    simp only at h5 h6 ⊢
    congr 1
    omega
  unfold sDec
  rw [hn, hk, hl, if_neg (by omega), if_neg (by omega), if_neg (by omega)]
  have e : (encB n ++ more).take (6 + (n.bytes.length : Int) + 6).toNat = encB n := by
    rw [show (6 + (n.bytes.length : Int) + 6).toNat = 12 + n.bytes.length by omega]
    exact List.take_left' (encB_len n)
  rw [e, if_pos (by unfold sEnc; rw [if_pos ok]; exact ⟨rfl, rfl⟩)]
  congr 2
  omega
end Go.Proofs.Ytdjjhajkpfiagaa
