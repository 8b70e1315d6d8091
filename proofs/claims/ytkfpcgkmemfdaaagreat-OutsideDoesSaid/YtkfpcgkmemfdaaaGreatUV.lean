/- UW9, UW10, UW12, UW16, UW18, in one text. -/
import Derived.Test.YtkfpcgkmemfdaaaGreatUW678
import Derived.Test.YtkfpcgkmemfdaaaGreatUK
import Derived.Test.YtkfpcgkmemfdaaaGreatWMa
import Derived.Test.YtkfpcgkmemfdaaaGreatC5
/- Files drawn. -/
namespace Go.Proofs.YtkfpcgkmemfdaaaGreat
open Go Go.RowKit Rdn Rdn.Dp
set_option linter.unusedVariables false
set_option linter.unusedSimpArgs false
/-- The first files, drawn. -/
def fl0 (l : List Int) (k : Nat) : Files := ⟨[numC (dws l k 5).1, numC (dws l (dws l k 5).2 3).1], eight⟩
def kl0 (l : List Int) (k : Nat) : Nat := (dws l (dws l (dws l (dws l (dws l (dws l k 5).2 3).2 8).2 4).2 5).2 5).2
theorem numC_cell (l : List Int) : (numC l).all cellB = true := by
  rw [List.all_eq_true]
  intro x hx
  obtain ⟨v, _, rfl⟩ := List.mem_map.1 hx
  exact decT (.inl ⟨.inl rfl, rfl, rfl⟩)
theorem fl0_fit (l : List Int) (k : Nat) : FitF (fl0 l k) := by
  have h1 := dws_len (l := l) (k := k) (n := 5) (by omega)
  have h2 := dws_len (l := l) (k := (dws l k 5).2) (n := 3) (by omega)
  refine ⟨by show 2 ≤ 4; omega, rfl, fun x hx => ?_, fun x hx => ?_, fun o ho => ?_⟩
  · simp [fl0] at hx
    rcases hx with rfl | rfl
    · rw [numC_len]; omega
    · rw [numC_len]; omega
  · simp [fl0] at hx
    rcases hx with rfl | rfl
    · exact numC_cell _
    · exact numC_cell _
  · simp [fl0, eight] at ho; subst ho; exact .inl ⟨rfl, rfl, rfl⟩
theorem kl0_le {l : List Int} {k : Nat} (hk : k ≤ l.length) : kl0 l k ≤ l.length := by unfold kl0; exact dws_le (dws_le (dws_le (dws_le (dws_le (dws_le hk 5) 3) 8) 4) 5) 5
theorem fl0_V (l : List Int) (k : Nat) : fsV (dws l k 5).1 (dws l (dws l k 5).2 3).1 = filV (fl0 l k) := rfl
end Go.Proofs.YtkfpcgkmemfdaaaGreat
/- Files: equality by the reference. -/
namespace Go.Proofs.YtkfpcgkmemfdaaaGreat
open Go Go.RowKit Rdn Rdn.Dp
set_option linter.unusedVariables false
set_option linter.unusedSimpArgs false
theorem m_samec_ok : compF Tryz.prog 71 = some (26, Qr ([Qc 4 (.bool false)])
 (.seq (Qr ([Qm 6 0, Qn 7 6, Qm 8 1, Qn 9 8, Qb 10 .neq 7 9])
 (.cond (.t 10) (Qr ([Qc 4 (.bool false)])
 (.ret)) (.skip)))
 (.seq (Qr ([Qm 11 0, Qn 12 11, Qp 13 (.mov (Qi 0))])
 (.block 0 (.loop (Qr ([Qb 14 .lss 13 12])
 (.seq (.cond (.t 14) (.skip) (.exit 0))
 (.seq (.block 1 (Qr ([Qm 15 13, Qm 5 15])
 (.seq (.dreg [Qm 16 0, Qm 17 5, Qx 18 4 16 17, QL 19 4 18, Qm 20 1, Qm 21 5, Qx 22 4 20 21, QL 23 4 22, Qp 24 (.eqs true [(some .u8), (some .u16), (some .i64), (some .i64)] (.t 19) (.t 23))] [[], [], [0, 1], [0, 1, 2], [], [], [4, 5], [4, 5, 6], [0, 1, 2, 3, 4, 5, 6, 7]])
 (.cond (.t 24) (Qr ([Qc 4 (.bool false)])
 (.ret)) (.skip)))))
 (.reg [Qk 25 .add 13 1, Qm 13 25])))))))
 (Qr ([Qc 4 (.bool true)])
 (.ret)))), [.mov (.t 4)]) := by kernel_rfl
theorem m_rsamf_ok : compF Tryz.prog 43 = some (60, Qr ([Qw 2 (.box 34 (.t 0)), Qw 3 (.box 34 (.t 1)), Qc 4 (.bool false)])
 (.seq (Qr ([Qf 7 0 0 2, Ql 8 1 7, Qn 9 8, Qf 10 0 0 3, Ql 11 1 10, Qn 12 11, Qb 13 .neq 9 12, Qm 14 13, Q0 15 14 (.fieldA 1 1 (.t 2)), Q0 16 14 (.load false 1 (.t 15)), Q0 17 14 (.len (.t 16)), Q0 18 14 (.fieldA 1 1 (.t 3)), Q0 19 14 (.load false 1 (.t 18)), Q0 20 14 (.len (.t 19)), Q0 21 14 (.bin 0 .neq (.t 17) (.t 20)), Qt 22 14 21])
 (.cond (.t 22) (Qr ([Qc 4 (.bool false)])
 (.ret)) (.skip)))
 (.seq (Qr ([Qf 23 0 0 2, Ql 24 1 23, Qn 25 24, Qp 26 (.mov (Qi 0))])
 (.block 0 (.loop (Qr ([Qb 27 .lss 26 25])
 (.seq (.cond (.t 27) (.skip) (.exit 0))
 (.seq (.block 1 (Qr ([Qm 28 26, Qm 5 28])
 (.seq (.dreg [Qf 29 0 0 2, Ql 30 1 29, Qm 31 5, Qx 32 1 30 31, Ql 33 1 32, Qf 34 0 0 3, Ql 35 1 34, Qm 36 5, Qx 37 1 35 36, Ql 38 1 37, Qq 39 71 [(.t 33), (.t 38)], Qp 40 (.un .not (.t 39))] [[], [0], [], [0, 1, 2], [0, 1, 2, 3], [], [5], [], [5, 6, 7], [5, 6, 7, 8], [0, 1, 2, 3, 4, 5, 6, 7, 8, 9], [0, 1, 2, 3, 4, 5, 6, 7, 8, 9, 10]])
 (.cond (.t 40) (Qr ([Qc 4 (.bool false)])
 (.ret)) (.skip)))))
 (.reg [Qk 41 .add 26 1, Qm 26 41])))))))
 (.seq (Qr ([Qf 42 1 1 2, Ql 43 1 42, Qn 44 43, Qp 45 (.mov (Qi 0))])
 (.block 2 (.loop (Qr ([Qb 46 .lss 45 44])
 (.seq (.cond (.t 46) (.skip) (.exit 2))
 (.seq (.block 3 (Qr ([Qm 47 45, Qm 6 47])
 (.seq (.dreg [Qf 48 1 1 2, Ql 49 1 48, Qm 50 6, Qx 51 3 49 50, QL 52 3 51, Qf 53 1 1 3, Ql 54 1 53, Qm 55 6, Qx 56 3 54 55, QL 57 3 56, Qp 58 (.eqs true [(some .i64), (some .i64), none] (.t 52) (.t 57))] [[], [0], [], [0, 1, 2], [0, 1, 2, 3], [], [5], [], [5, 6, 7], [5, 6, 7, 8], [0, 1, 2, 3, 4, 5, 6, 7, 8, 9]])
 (.cond (.t 58) (Qr ([Qc 4 (.bool false)])
 (.ret)) (.skip)))))
 (.reg [Qk 59 .add 45 1, Qm 45 59])))))))
 (Qr ([Qc 4 (.bool true)])
 (.ret))))), [.mov (.t 4)]) := by kernel_rfl
set_option maxHeartbeats 4000000 in
theorem samec_fn (a b : List Canon) : Fnc Tryz.prog 71 [.sl false 4 (a.map canonV), .sl false 4 (b.map canonV)] (fun x obs => x = .bool (decide (a = b)) ∧ obs = []) := by
  refine Fnc.wf fun hw => ?_
  simp only [V.wfs, V.wf, wfs_map, List.length_map] at hw
  have hm := hw.1.2
  have hm' := hw.2.1.2
  by_cases hl : a.length = b.length
  · skip
    refine zgo m_samec_ok fun W S => ?_
    refine ev_loopK [0, 1, 12] (fun p : {p : Nat // p ≤ a.length ∧ a.take p = b.take p} => [(13, .int .i64 p.1)]) (fun _ => []) (fun p => a.length - p.1) (⟨0, by simp⟩) 0 (by simp only [go_sem]; rfl) ?_ (by first | rfl | (simp only [go_sem]; done)) (by simp) (by first | rfl | (simp only [go_sem]; done)) (by first | rfl | (simp only [go_sem]; done)) (by first | rfl | (simp only [go_sem]; done)) ?_
    · (simp only [go_sem]; (try simp []); done)
    intro J hJ
    rintro ⟨k, hk0, hk1⟩
    by_cases hlt : k < a.length
    · by_cases e : a[k]! = b[k]!
      · skip
        refine zst ?_
        exact zn0 (hJ _ (⟨k + 1, hlt, by rw [take_snoc hlt, take_snoc (by omega), hk1, e]⟩) (by first | omega | (dsimp only; omega) | (simp; omega))) hlt
      · have hne : a ≠ b := fun h => e (at_of_eq h k)
        refine zst ?_
        refine ret m_samec_ok [] ?_; (first | (simp only [go_sem]; done) | (simp only [go_sem]; exact ⟨rfl, rfl⟩))
    · have hab := eq_of_take (by omega) (by omega) hk1
      refine zst ?_
      refine ret m_samec_ok [] ?_; (first | (simp only [go_sem]; done) | (simp only [go_sem]; exact ⟨rfl, rfl⟩))
  · have hne : a ≠ b := fun h => hl (by rw [h])
    refine zgo m_samec_ok fun W S => ?_
    refine ret m_samec_ok [] ?_; (first | (simp only [go_sem]; done) | (simp only [go_sem]; exact ⟨rfl, rfl⟩))
theorem opn_ext {a b : Opn} (h1 : a.file = b.file) (h2 : a.offset = b.offset) (h3 : a.write = b.write) : a = b := by
  obtain ⟨a1, a2, a3⟩ := a
  obtain ⟨b1, b2, b3⟩ := b
  simp only at h1 h2 h3
  rw [h1, h2, h3]
theorem opn_eqs (a b : Opn) : (a.file == b.file && (a.offset == b.offset && a.write == b.write)) = decide (a = b) := by
  by_cases e : a = b
  · subst e; simp
  · rw [decF e]
    by_cases h1 : a.file = b.file
    · by_cases h2 : a.offset = b.offset
      · have h3 : a.write ≠ b.write := fun h3 => e (opn_ext h1 h2 h3)
        simp [h1, h2, h3]
      · simp [h2]
    · simp [h1]
theorem files_ext {a b : Files} (h1 : a.data = b.data) (h2 : a.opens = b.opens) : a = b := by
  obtain ⟨a1, a2⟩ := a
  obtain ⟨b1, b2⟩ := b
  simp only at h1 h2
  rw [h1, h2]
set_option maxHeartbeats 8000000 in
theorem rsamf_fn (a b : Files) : Fnc Tryz.prog 43 [filV a, filV b] (fun x obs => x = .bool (decide (a = b)) ∧ obs = []) := by
  refine Fnc.wf fun hw => ?_
  simp only [V.wfs, V.wf, List.length_map] at hw
  have m1 := hw.1.1.2
  have m2 := hw.1.2.1.2
  have m3 := hw.2.1.1.2
  have m4 := hw.2.1.2.1.2
  clear hw
  by_cases hl : a.data.length = b.data.length
  · by_cases ho : a.opens.length = b.opens.length
    · skip
      refine zgo m_rsamf_ok fun W S => ?_
      refine ev_loopK [2, 3, 25] (fun p : {p : Nat // p ≤ a.data.length ∧ a.data.take p = b.data.take p} => [(26, .int .i64 p.1)]) (fun _ => [⟨.box false 34, true, 0, filV a⟩, ⟨.box false 34, true, 0, filV b⟩]) (fun p => a.data.length - p.1) (⟨0, by simp⟩) 2 (by simp only [go_sem]; rfl) ?_ (by first | rfl | (simp only [go_sem]; done)) (by simp) (by first | rfl | (simp only [go_sem]; done)) (by first | rfl | (simp only [go_sem]; done)) (by first | rfl | (simp only [go_sem]; done)) ?_
      · (simp only [go_sem]; (try simp []); done)
      intro J hJ
      rintro ⟨k, hk0, hk1⟩
      by_cases hlt : k < a.data.length
      · by_cases e : a.data[k]! = b.data[k]!
        · have hd : decide (a.data[k]! = b.data[k]!) = true := decT e
          refine zst ?_
          (first | refine callD (samec_fn a.data[k]! b.data[k]!) ?_ | refine callDw (samec_fn a.data[k]! b.data[k]!) ?_); simp only [go_sem, hd]
          refine zst ?_
          exact zn2 (hJ _ (⟨k + 1, hlt, by rw [take_snoc hlt, take_snoc (by omega), hk1, e]⟩) (by first | omega | (dsimp only; omega) | (simp; omega))) hlt
        · have hd : decide (a.data[k]! = b.data[k]!) = false := decF e
          have hr : decide (a = b) = false := decF fun h => e (by rw [h])
          refine zst ?_
          (first | refine callD (samec_fn a.data[k]! b.data[k]!) ?_ | refine callDw (samec_fn a.data[k]! b.data[k]!) ?_); simp only [go_sem, hd]
          refine zst ?_
          exact zrh m_rsamf_ok hr
      · have hab := eq_of_take (by omega) (by omega) hk1
        refine zst ?_
        refine ev_loopK [2, 3, 44] (fun p : {p : Nat // p ≤ a.opens.length ∧ a.opens.take p = b.opens.take p} => [(45, .int .i64 p.1)]) (fun _ => [⟨.box false 34, true, 0, filV a⟩, ⟨.box false 34, true, 0, filV b⟩]) (fun p => a.opens.length - p.1) (⟨0, by simp⟩) 2 (by simp only [go_sem]; rfl) ?_ (by first | rfl | (simp only [go_sem]; done)) (by simp) (by first | rfl | (simp only [go_sem]; done)) (by first | rfl | (simp only [go_sem]; done)) (by first | rfl | (simp only [go_sem]; done)) ?_
        · (simp only [go_sem]; (try simp []); done)
        intro J hJ
        rintro ⟨i, hi0, hi1⟩
        by_cases hlt2 : i < a.opens.length
        · by_cases e : a.opens[i]! = b.opens[i]!
          · have hd : decide (a.opens[i]! = b.opens[i]!) = true := decT e
            repeat (first | (simp only [opn_eqs, hd]; try simp only [go_sem]) | refine And.intro (by omega) ?_ | refine And.intro rfl ?_ | refine ev_ctl rfl rfl ?_ | refine evr_nil ?_ | refine evw_nil (by kernel_rfl) ?_ | (simp (disch := omega) only [takeAll, Nat.min_eq_left, Nat.min_eq_right, if_pos, if_neg, getD_map, wrapI64, modIn, fdivE, tmodE, tdivE, decT, decF, beqT, beqF, bneT, bneF, Int.toNat_natCast]; try simp only [go_sem]) | (refine ev_condTb rfl ?_ ?_; · (simp <;> omega)) | (refine ev_condFb rfl ?_ ?_; · (simp <;> omega)) | ((first | refine ev_region ?_ | refine evr_go rfl ?_ | refine evw_go rfl ?_ | refine ev_dr0 mixed rfl (by kernel_rfl) ?_ | refine ev_dr1 mixed rfl (by kernel_rfl) ?_ | refine ev_dr2 mixed rfl (by kernel_rfl) ?_); simp only [go_sem]))
            exact zn2 (hJ _ (⟨i + 1, hlt2, by rw [take_snoc hlt2, take_snoc (by omega), hi1, e]⟩) (by first | omega | (dsimp only; omega) | (simp; omega))) hlt2
          · have hd : decide (a.opens[i]! = b.opens[i]!) = false := decF e
            have hr : decide (a = b) = false := decF fun h => e (by rw [h])
            repeat (first | (simp only [opn_eqs, hd]; try simp only [go_sem]) | refine And.intro (by omega) ?_ | refine And.intro rfl ?_ | refine ev_ctl rfl rfl ?_ | refine evr_nil ?_ | refine evw_nil (by kernel_rfl) ?_ | (simp (disch := omega) only [takeAll, Nat.min_eq_left, Nat.min_eq_right, if_pos, if_neg, getD_map, wrapI64, modIn, fdivE, tmodE, tdivE, decT, decF, beqT, beqF, bneT, bneF, Int.toNat_natCast]; try simp only [go_sem]) | (refine ev_condTb rfl ?_ ?_; · (simp <;> omega)) | (refine ev_condFb rfl ?_ ?_; · (simp <;> omega)) | ((first | refine ev_region ?_ | refine evr_go rfl ?_ | refine evw_go rfl ?_ | refine ev_dr0 mixed rfl (by kernel_rfl) ?_ | refine ev_dr1 mixed rfl (by kernel_rfl) ?_ | refine ev_dr2 mixed rfl (by kernel_rfl) ?_); simp only [go_sem]))
            exact zrh m_rsamf_ok hr
        · have hr : decide (a = b) = true := decT (files_ext hab (eq_of_take (by omega) (by omega) hi1))
          refine zst ?_
          exact zrh m_rsamf_ok hr
    · have hr : decide (a = b) = false := decF fun h => ho (by rw [h])
      refine zgo m_rsamf_ok fun W S => ?_
      exact zrh m_rsamf_ok hr
  · have hr : decide (a = b) = false := decF fun h => hl (by rw [h])
    refine zgo m_rsamf_ok fun W S => ?_
    exact zrh m_rsamf_ok hr
end Go.Proofs.YtkfpcgkmemfdaaaGreat
/- Files: validity by the reference. -/
namespace Go.Proofs.YtkfpcgkmemfdaaaGreat
open Go Go.RowKit Rdn Rdn.Dp
set_option linter.unusedVariables false
set_option linter.unusedSimpArgs false
theorem m_rvalf_ok : compF Tryz.prog 34 = some (83, Qr ([Qw 1 (.box 34 (.t 0)), Qc 2 (.bool false)])
 (.seq (Qr ([Qf 7 0 0 1, Ql 8 1 7, Qn 9 8, Qk 10 .gtr 9 4, Qm 11 10, Q0 12 11 (.fieldA 1 1 (.t 1)), Q0 13 11 (.load false 1 (.t 12)), Q0 14 11 (.len (.t 13)), Q0 15 11 (.bin 0 .neq (.t 14) (Qi 8)), Qt 16 11 15])
 (.cond (.t 16) (Qr ([Qc 2 (.bool false)])
 (.ret)) (.skip)))
 (.seq (Qr ([Qf 17 0 0 1, Ql 18 1 17, Qn 19 18, Qp 20 (.mov (Qi 0))])
 (.block 0 (.loop (Qr ([Qb 21 .lss 20 19])
 (.seq (.cond (.t 21) (.skip) (.exit 0))
 (.seq (.block 1 (Qr ([Qx 22 1 18 20, Ql 23 1 22, Qm 4 23])
 (Qr ([Qm 24 4, Qq 25 33 [(.t 24), (Qi 64)], Qp 26 (.un .not (.t 25))])
 (.cond (.t 26) (Qr ([Qc 2 (.bool false)])
 (.ret)) (.skip)))))
 (.reg [Qk 27 .add 20 1, Qm 20 27])))))))
 (.seq (Qr ([Qf 28 1 1 1, Ql 29 1 28, Qn 30 29, Qp 31 (.mov (Qi 0))])
 (.block 2 (.loop (Qr ([Qb 32 .lss 31 30])
 (.seq (.cond (.t 32) (.skip) (.exit 2))
 (.seq (.block 3 (Qr ([Qx 33 3 29 31, QL 34 3 33, Qw 6 (.alloc 47 (.agg [.int .i64 0, .int .i64 0, .bool false])), Qs 3 6 34])
 (.seq (.dreg [Qf 35 0 0 6, Ql 36 1 35, Qk 37 .eql 36 (-1), Qm 38 37, Q1 39 38 (.fieldA 1 1 (.t 6)), Q1 40 38 (.load false 1 (.t 39)), Q1 41 38 (.bin 0 .neq (.t 40) (Qi 0)), Q1 42 38 (.mov (.t 41)), Q0 43 42 (.fieldA 2 2 (.t 6)), Q0 44 42 (.load false 1 (.t 43)), Q1 45 38 (.pick (.t 42) (.c (.bool true)) (.t 44)), Qu 46 38 45, Qm 47 46, Q0 48 47 (.fieldA 0 0 (.t 6)), Q0 49 47 (.load false 1 (.t 48)), Q0 50 47 (.bin 0 .lss (.t 49) (Qi (-1))), Qt 51 47 50, Qm 52 51, Q0 53 52 (.fieldA 0 0 (.t 6)), Q0 54 52 (.load false 1 (.t 53)), Q0 55 52 (.fieldA 0 0 (.t 1)), Q0 56 52 (.load false 1 (.t 55)), Q0 57 52 (.len (.t 56)), Q0 58 52 (.bin 0 .geq (.t 54) (.t 57)), Qt 59 52 58, Qm 60 59, Q0 61 60 (.fieldA 0 0 (.t 6)), Q0 62 60 (.load false 1 (.t 61)), Q0 63 60 (.bin 0 .geq (.t 62) (Qi 0)), Q0 64 60 (.mov (.t 63)), Q1 65 64 (.fieldA 1 1 (.t 6)), Q1 66 64 (.load false 1 (.t 65)), Q1 67 64 (.bin 0 .lss (.t 66) (Qi 0)), Q1 68 64 (.mov (.t 67)), Q0 69 68 (.fieldA 1 1 (.t 6)), Q0 70 68 (.load false 1 (.t 69)), Q0 71 68 (.fieldA 0 0 (.t 1)), Q0 72 68 (.load false 1 (.t 71)), Q0 73 68 (.fieldA 0 0 (.t 6)), Q0 74 68 (.load false 1 (.t 73)), Q0 75 68 (.idxA 1 (.t 72) (.t 74)), Q0 76 68 (.load false 1 (.t 75)), Q0 77 68 (.len (.t 76)), Q0 78 68 (.bin 0 .gtr (.t 70) (.t 77)), Q1 79 64 (.pick (.t 68) (.c (.bool true)) (.t 78)), Q0 80 60 (.pick (.t 64) (.t 79) (.c (.bool false))), Qt 81 60 80] [[], [0], [0, 1], [0, 1, 2], [0, 1, 2, 3], [0, 1, 2, 3, 4], [0, 1, 2, 3, 4, 5], [0, 1, 2, 3, 4, 5, 6], [0, 1, 2, 3, 4, 5, 6, 7], [0, 1, 2, 3, 4, 5, 6, 7, 8], [0, 1, 2, 3, 4, 5, 6, 7, 8, 9], [0, 1, 2, 3, 4, 5, 6, 7, 8, 9, 10], [0, 1, 2, 3, 4, 5, 6, 7, 8, 9, 10, 11], [0, 1, 2, 3, 4, 5, 6, 7, 8, 9, 10, 11, 12], [0, 1, 2, 3, 4, 5, 6, 7, 8, 9, 10, 11, 12, 13], [0, 1, 2, 3, 4, 5, 6, 7, 8, 9, 10, 11, 12, 13, 14], [0, 1, 2, 3, 4, 5, 6, 7, 8, 9, 10, 11, 12, 13, 14, 15], [0, 1, 2, 3, 4, 5, 6, 7, 8, 9, 10, 11, 12, 13, 14, 15, 16], [0, 1, 2, 3, 4, 5, 6, 7, 8, 9, 10, 11, 12, 13, 14, 15, 16, 17], [0, 1, 2, 3, 4, 5, 6, 7, 8, 9, 10, 11, 12, 13, 14, 15, 16, 17, 18], [0, 1, 2, 3, 4, 5, 6, 7, 8, 9, 10, 11, 12, 13, 14, 15, 16, 17], [0, 1, 2, 3, 4, 5, 6, 7, 8, 9, 10, 11, 12, 13, 14, 15, 16, 17, 20], [0, 1, 2, 3, 4, 5, 6, 7, 8, 9, 10, 11, 12, 13, 14, 15, 16, 17, 20, 21], [0, 1, 2, 3, 4, 5, 6, 7, 8, 9, 10, 11, 12, 13, 14, 15, 16, 17, 18, 19, 20, 21, 22], [0, 1, 2, 3, 4, 5, 6, 7, 8, 9, 10, 11, 12, 13, 14, 15, 16, 17, 18, 19, 20, 21, 22, 23], [0, 1, 2, 3, 4, 5, 6, 7, 8, 9, 10, 11, 12, 13, 14, 15, 16, 17, 18, 19, 20, 21, 22, 23, 24], [0, 1, 2, 3, 4, 5, 6, 7, 8, 9, 10, 11, 12, 13, 14, 15, 16, 17, 18, 19, 20, 21, 22, 23, 24, 25], [0, 1, 2, 3, 4, 5, 6, 7, 8, 9, 10, 11, 12, 13, 14, 15, 16, 17, 18, 19, 20, 21, 22, 23, 24, 25, 26], [0, 1, 2, 3, 4, 5, 6, 7, 8, 9, 10, 11, 12, 13, 14, 15, 16, 17, 18, 19, 20, 21, 22, 23, 24, 25, 26, 27], [0, 1, 2, 3, 4, 5, 6, 7, 8, 9, 10, 11, 12, 13, 14, 15, 16, 17, 18, 19, 20, 21, 22, 23, 24, 25, 26, 27, 28], [0, 1, 2, 3, 4, 5, 6, 7, 8, 9, 10, 11, 12, 13, 14, 15, 16, 17, 18, 19, 20, 21, 22, 23, 24, 25, 26, 27, 28, 29], [0, 1, 2, 3, 4, 5, 6, 7, 8, 9, 10, 11, 12, 13, 14, 15, 16, 17, 18, 19, 20, 21, 22, 23, 24, 25, 26, 27, 28, 29, 30], [0, 1, 2, 3, 4, 5, 6, 7, 8, 9, 10, 11, 12, 13, 14, 15, 16, 17, 18, 19, 20, 21, 22, 23, 24, 25, 26, 27, 28, 29, 30, 31], [0, 1, 2, 3, 4, 5, 6, 7, 8, 9, 10, 11, 12, 13, 14, 15, 16, 17, 18, 19, 20, 21, 22, 23, 24, 25, 26, 27, 28, 29, 30, 31, 32], [0, 1, 2, 3, 4, 5, 6, 7, 8, 9, 10, 11, 12, 13, 14, 15, 16, 17, 18, 19, 20, 21, 22, 23, 24, 25, 26, 27, 28, 29, 30, 31, 32, 33], [0, 1, 2, 3, 4, 5, 6, 7, 8, 9, 10, 11, 12, 13, 14, 15, 16, 17, 18, 19, 20, 21, 22, 23, 24, 25, 26, 27, 28, 29, 30, 31, 32, 33, 34], [0, 1, 2, 3, 4, 5, 6, 7, 8, 9, 10, 11, 12, 13, 14, 15, 16, 17, 18, 19, 20, 21, 22, 23, 24, 25, 26, 27, 28, 29, 30, 31, 32, 33], [0, 1, 2, 3, 4, 5, 6, 7, 8, 9, 10, 11, 12, 13, 14, 15, 16, 17, 18, 19, 20, 21, 22, 23, 24, 25, 26, 27, 28, 29, 30, 31, 32, 33, 36], [0, 1, 2, 3, 4, 5, 6, 7, 8, 9, 10, 11, 12, 13, 14, 15, 16, 17, 18, 19, 20, 21, 22, 23, 24, 25, 26, 27, 28, 29, 30, 31, 32, 33], [0, 1, 2, 3, 4, 5, 6, 7, 8, 9, 10, 11, 12, 13, 14, 15, 16, 17, 18, 19, 20, 21, 22, 23, 24, 25, 26, 27, 28, 29, 30, 31, 32, 33, 38], [0, 1, 2, 3, 4, 5, 6, 7, 8, 9, 10, 11, 12, 13, 14, 15, 16, 17, 18, 19, 20, 21, 22, 23, 24, 25, 26, 27, 28, 29, 30, 31, 32, 33, 36, 37, 38, 39], [0, 1, 2, 3, 4, 5, 6, 7, 8, 9, 10, 11, 12, 13, 14, 15, 16, 17, 18, 19, 20, 21, 22, 23, 24, 25, 26, 27, 28, 29, 30, 31, 32, 33, 36, 37, 38, 39, 40], [0, 1, 2, 3, 4, 5, 6, 7, 8, 9, 10, 11, 12, 13, 14, 15, 16, 17, 18, 19, 20, 21, 22, 23, 24, 25, 26, 27, 28, 29, 30, 31, 32, 33, 36, 37, 38, 39, 40, 41], [0, 1, 2, 3, 4, 5, 6, 7, 8, 9, 10, 11, 12, 13, 14, 15, 16, 17, 18, 19, 20, 21, 22, 23, 24, 25, 26, 27, 28, 29, 30, 31, 32, 33, 34, 35, 36, 37, 38, 39, 40, 41, 42], [0, 1, 2, 3, 4, 5, 6, 7, 8, 9, 10, 11, 12, 13, 14, 15, 16, 17, 18, 19, 20, 21, 22, 23, 24, 25, 26, 27, 28, 29, 30, 31, 32, 33, 34, 35, 36, 37, 38, 39, 40, 41, 42, 43], [0, 1, 2, 3, 4, 5, 6, 7, 8, 9, 10, 11, 12, 13, 14, 15, 16, 17, 18, 19, 20, 21, 22, 23, 24, 25, 26, 27, 28, 29, 30, 31, 32, 33, 34, 35, 36, 37, 38, 39, 40, 41, 42, 43, 44], [0, 1, 2, 3, 4, 5, 6, 7, 8, 9, 10, 11, 12, 13, 14, 15, 16, 17, 18, 19, 20, 21, 22, 23, 24, 25, 26, 27, 28, 29, 30, 31, 32, 33, 34, 35, 36, 37, 38, 39, 40, 41, 42, 43, 44, 45]])
 (.cond (.t 81) (Qr ([Qc 2 (.bool false)])
 (.ret)) (.skip)))))
 (.reg [Qk 82 .add 31 1, Qm 31 82])))))))
 (Qr ([Qc 2 (.bool true)])
 (.ret))))), [.mov (.t 2)]) := by kernel_rfl
/-- Whether files are valid. -/
noncomputable def valF (f : Files) : Bool := @decide (FitF f) (Classical.propDecidable _)
theorem valF_T {f : Files} (h : FitF f) : valF f = true := by unfold valF; exact @decide_eq_true _ (Classical.propDecidable _) h
theorem valF_F {f : Files} (h : ¬ FitF f) : valF f = false := by unfold valF; exact @decide_eq_false _ (Classical.propDecidable _) h
theorem cellsB_F {f : Files} {k : Nat} (hk : k < f.data.length) (h : cellsB f.data[k]! 64 = false) : ¬ FitF f := fun F => by
  have h1 := F.len _ (mem_at hk)
  have h2 := F.cell _ (mem_at hk)
  unfold cellsB at h
  rw [h2, decT (by omega)] at h
  exact absurd h (by decide)
theorem okO_F {f : Files} {i : Nat} (hi : i < f.opens.length) (h : ¬ okO f f.opens[i]!) : ¬ FitF f := fun F => h (F.ok _ (mem_at hi))
set_option maxHeartbeats 16000000 in
theorem rvalf_fn (f : Files) : Fnc Tryz.prog 34 [filV f] (fun x obs => x = .bool (valF f) ∧ obs = []) := by
  refine Fnc.wf fun hw => ?_
  have hm : ∀ k, k < f.data.length → f.data[k]!.length ≤ 140737488355328 := fun k hk => by
    have := hw.1
    simp only [V.wf, V.wfs, wfs_map] at this
    have := this.1.1 _ (mem_at hk)
    simp only [slV', V.wf, List.length_map] at this
    exact this.2
  simp only [V.wfs, V.wf, List.length_map] at hw
  have m1 := hw.1.1.2
  have m2 := hw.1.2.1.2
  clear hw
  by_cases hl : f.data.length ≤ 4
  · by_cases ho : f.opens.length = 8
    · skip
      refine zgo m_rvalf_ok fun W S => ?_
      refine ev_loopK [1, 18, 19] (fun p : {p : Nat // p ≤ f.data.length ∧ ∀ j, j < p → cellsB f.data[j]! 64 = true} => [(20, .int .i64 p.1)]) (fun _ => [⟨.box false 34, true, 0, filV f⟩]) (fun p => f.data.length - p.1) (⟨0, by simp⟩) 1 (by simp only [go_sem]; rfl) ?_ (by first | rfl | (simp only [go_sem]; done)) (by simp) (by first | rfl | (simp only [go_sem]; done)) (by first | rfl | (simp only [go_sem]; done)) (by first | rfl | (simp only [go_sem]; done)) ?_
      · (simp only [go_sem]; (try simp []); done)
      intro J hJ
      rintro ⟨k, hk0, hk1⟩
      by_cases hlt : k < f.data.length
      · have h3 := hm k hlt
        have fc := rcels_fn f.data[k]! 64
        by_cases e : cellsB f.data[k]! 64 = true
        · rw [e] at fc
          have hS : ∀ j, j < k + 1 → cellsB f.data[j]! 64 = true := fun j hj => by
            by_cases e' : j = k
            · subst e'; exact e
            · exact hk1 j (by omega)
          refine zst ?_
          refine zcd (fc) ?_
          exact zn1 (hJ _ (⟨k + 1, hlt, hS⟩) (by first | omega | (dsimp only; omega) | (simp; omega))) hlt
        · rw [Bool.not_eq_true] at e
          rw [e] at fc
          rw [valF_F (cellsB_F hlt e)]
          refine zst ?_
          refine zcd (fc) ?_
          exact zrt m_rvalf_ok
      · obtain rfl : k = f.data.length := by omega
        refine zst ?_
        refine ev_loopK [1, 29, 30] (fun p : {p : Nat // p ≤ 8 ∧ ∀ j, j < p → okO f f.opens[j]!} => [(31, .int .i64 p.1)]) (fun _ => [⟨.box false 34, true, 0, filV f⟩]) (fun p => 8 - p.1) (⟨0, by simp⟩) 1 (by simp only [go_sem]; rfl) ?_ (by first | rfl | (simp only [go_sem]; done)) (by simp) (by first | rfl | (simp only [go_sem]; done)) (by first | rfl | (simp only [go_sem]; done)) (by first | rfl | (simp only [go_sem]; done)) ?_
        · (simp only [go_sem]; (try simp []); done)
        intro J hJ
        rintro ⟨i, hi0, hi1⟩
        by_cases hlt2 : i < 8
        · have hS (h : okO f f.opens[i]!) : ∀ j, j < i + 1 → okO f f.opens[j]! := fun j hj => by
            by_cases e' : j = i
            · subst e'; exact h
            · exact hi1 j (by omega)
          have hF := fun h => okO_F (f := f) (i := i) (by omega) h
          generalize ho' : f.opens[i]! = o at hS hF
          by_cases c1 : o.file = -1
          · by_cases c2 : o.offset = 0
            · cases c3 : o.write
              · have hS := hS (.inl ⟨c1, c2, c3⟩)
                repeat (first | (simp only [ho', c3]; try simp only [go_sem]) | refine And.intro (by omega) ?_ | refine And.intro rfl ?_ | refine ev_ctl rfl rfl ?_ | refine evr_nil ?_ | refine evw_nil (by kernel_rfl) ?_ | (simp (disch := omega) only [takeAll, Nat.min_eq_left, Nat.min_eq_right, if_pos, if_neg, getD_map, wrapI64, modIn, fdivE, tmodE, tdivE, decT, decF, beqT, beqF, bneT, bneF, Int.toNat_natCast]; try simp only [go_sem]) | (refine ev_condTb rfl ?_ ?_; · (simp <;> omega)) | (refine ev_condFb rfl ?_ ?_; · (simp <;> omega)) | ((first | refine ev_region ?_ | refine evr_go rfl ?_ | refine evw_go rfl ?_ | refine ev_dr0 mixed rfl (by kernel_rfl) ?_ | refine ev_dr1 mixed rfl (by kernel_rfl) ?_ | refine ev_dr2 mixed rfl (by kernel_rfl) ?_); simp only [go_sem]))
                exact zn1 (hJ _ (⟨i + 1, hlt2, hS⟩) (by first | omega | (dsimp only; omega) | (simp; omega))) hlt2
              · rw [valF_F (hF fun h => by
                  rcases h with h | h
                  · rw [c3] at h; exact absurd h.2.2 (by decide)
                  · omega)]
                repeat (first | (simp only [ho', c3]; try simp only [go_sem]) | refine And.intro (by omega) ?_ | refine And.intro rfl ?_ | refine ev_ctl rfl rfl ?_ | refine evr_nil ?_ | refine evw_nil (by kernel_rfl) ?_ | (simp (disch := omega) only [takeAll, Nat.min_eq_left, Nat.min_eq_right, if_pos, if_neg, getD_map, wrapI64, modIn, fdivE, tmodE, tdivE, decT, decF, beqT, beqF, bneT, bneF, Int.toNat_natCast]; try simp only [go_sem]) | (refine ev_condTb rfl ?_ ?_; · (simp <;> omega)) | (refine ev_condFb rfl ?_ ?_; · (simp <;> omega)) | ((first | refine ev_region ?_ | refine evr_go rfl ?_ | refine evw_go rfl ?_ | refine ev_dr0 mixed rfl (by kernel_rfl) ?_ | refine ev_dr1 mixed rfl (by kernel_rfl) ?_ | refine ev_dr2 mixed rfl (by kernel_rfl) ?_); simp only [go_sem]))
                exact zrt m_rvalf_ok
            · rw [valF_F (hF fun h => by rcases h with h | h <;> omega)]
              repeat (first | (simp only [ho']; try simp only [go_sem]) | refine And.intro (by omega) ?_ | refine And.intro rfl ?_ | refine ev_ctl rfl rfl ?_ | refine evr_nil ?_ | refine evw_nil (by kernel_rfl) ?_ | (simp (disch := omega) only [takeAll, Nat.min_eq_left, Nat.min_eq_right, if_pos, if_neg, getD_map, wrapI64, modIn, fdivE, tmodE, tdivE, decT, decF, beqT, beqF, bneT, bneF, Int.toNat_natCast]; try simp only [go_sem]) | (refine ev_condTb rfl ?_ ?_; · (simp <;> omega)) | (refine ev_condFb rfl ?_ ?_; · (simp <;> omega)) | ((first | refine ev_region ?_ | refine evr_go rfl ?_ | refine evw_go rfl ?_ | refine ev_dr0 mixed rfl (by kernel_rfl) ?_ | refine ev_dr1 mixed rfl (by kernel_rfl) ?_ | refine ev_dr2 mixed rfl (by kernel_rfl) ?_); simp only [go_sem]))
              exact zrt m_rvalf_ok
          by_cases c2 : o.file < -1
          · rw [valF_F (hF fun h => by rcases h with h | h <;> omega)]
            repeat (first | (simp only [ho']; try simp only [go_sem]) | refine And.intro (by omega) ?_ | refine And.intro rfl ?_ | refine ev_ctl rfl rfl ?_ | refine evr_nil ?_ | refine evw_nil (by kernel_rfl) ?_ | (simp (disch := omega) only [takeAll, Nat.min_eq_left, Nat.min_eq_right, if_pos, if_neg, getD_map, wrapI64, modIn, fdivE, tmodE, tdivE, decT, decF, beqT, beqF, bneT, bneF, Int.toNat_natCast]; try simp only [go_sem]) | (refine ev_condTb rfl ?_ ?_; · (simp <;> omega)) | (refine ev_condFb rfl ?_ ?_; · (simp <;> omega)) | ((first | refine ev_region ?_ | refine evr_go rfl ?_ | refine evw_go rfl ?_ | refine ev_dr0 mixed rfl (by kernel_rfl) ?_ | refine ev_dr1 mixed rfl (by kernel_rfl) ?_ | refine ev_dr2 mixed rfl (by kernel_rfl) ?_); simp only [go_sem]))
            exact zrt m_rvalf_ok
          by_cases c3 : f.data.length ≤ o.file
          · rw [valF_F (hF fun h => by rcases h with h | h <;> omega)]
            repeat (first | (simp only [ho']; try simp only [go_sem]) | refine And.intro (by omega) ?_ | refine And.intro rfl ?_ | refine ev_ctl rfl rfl ?_ | refine evr_nil ?_ | refine evw_nil (by kernel_rfl) ?_ | (simp (disch := omega) only [takeAll, Nat.min_eq_left, Nat.min_eq_right, if_pos, if_neg, getD_map, wrapI64, modIn, fdivE, tmodE, tdivE, decT, decF, beqT, beqF, bneT, bneF, Int.toNat_natCast]; try simp only [go_sem]) | (refine ev_condTb rfl ?_ ?_; · (simp <;> omega)) | (refine ev_condFb rfl ?_ ?_; · (simp <;> omega)) | ((first | refine ev_region ?_ | refine evr_go rfl ?_ | refine evw_go rfl ?_ | refine ev_dr0 mixed rfl (by kernel_rfl) ?_ | refine ev_dr1 mixed rfl (by kernel_rfl) ?_ | refine ev_dr2 mixed rfl (by kernel_rfl) ?_); simp only [go_sem]))
            exact zrt m_rvalf_ok
          by_cases c4 : o.offset < 0
          · rw [valF_F (hF fun h => by rcases h with h | h <;> omega)]
            repeat (first | (simp only [ho']; try simp only [go_sem]) | refine And.intro (by omega) ?_ | refine And.intro rfl ?_ | refine ev_ctl rfl rfl ?_ | refine evr_nil ?_ | refine evw_nil (by kernel_rfl) ?_ | (simp (disch := omega) only [takeAll, Nat.min_eq_left, Nat.min_eq_right, if_pos, if_neg, getD_map, wrapI64, modIn, fdivE, tmodE, tdivE, decT, decF, beqT, beqF, bneT, bneF, Int.toNat_natCast]; try simp only [go_sem]) | (refine ev_condTb rfl ?_ ?_; · (simp <;> omega)) | (refine ev_condFb rfl ?_ ?_; · (simp <;> omega)) | ((first | refine ev_region ?_ | refine evr_go rfl ?_ | refine evw_go rfl ?_ | refine ev_dr0 mixed rfl (by kernel_rfl) ?_ | refine ev_dr1 mixed rfl (by kernel_rfl) ?_ | refine ev_dr2 mixed rfl (by kernel_rfl) ?_); simp only [go_sem]))
            exact zrt m_rvalf_ok
          by_cases c5 : o.offset ≤ f.data[o.file.toNat]!.length
          · have hS := hS (.inr ⟨by omega, by omega, by omega, c5⟩)
            repeat (first | (simp only [ho']; try simp only [go_sem]) | refine And.intro (by omega) ?_ | refine And.intro rfl ?_ | refine ev_ctl rfl rfl ?_ | refine evr_nil ?_ | refine evw_nil (by kernel_rfl) ?_ | (simp (disch := omega) only [takeAll, Nat.min_eq_left, Nat.min_eq_right, if_pos, if_neg, getD_map, wrapI64, modIn, fdivE, tmodE, tdivE, decT, decF, beqT, beqF, bneT, bneF, Int.toNat_natCast]; try simp only [go_sem]) | (refine ev_condTb rfl ?_ ?_; · (simp <;> omega)) | (refine ev_condFb rfl ?_ ?_; · (simp <;> omega)) | ((first | refine ev_region ?_ | refine evr_go rfl ?_ | refine evw_go rfl ?_ | refine ev_dr0 mixed rfl (by kernel_rfl) ?_ | refine ev_dr1 mixed rfl (by kernel_rfl) ?_ | refine ev_dr2 mixed rfl (by kernel_rfl) ?_); simp only [go_sem]))
            exact zn1 (hJ _ (⟨i + 1, hlt2, hS⟩) (by first | omega | (dsimp only; omega) | (simp; omega))) hlt2
          · rw [valF_F (hF fun h => by rcases h with h | h <;> omega)]
            repeat (first | (simp only [ho']; try simp only [go_sem]) | refine And.intro (by omega) ?_ | refine And.intro rfl ?_ | refine ev_ctl rfl rfl ?_ | refine evr_nil ?_ | refine evw_nil (by kernel_rfl) ?_ | (simp (disch := omega) only [takeAll, Nat.min_eq_left, Nat.min_eq_right, if_pos, if_neg, getD_map, wrapI64, modIn, fdivE, tmodE, tdivE, decT, decF, beqT, beqF, bneT, bneF, Int.toNat_natCast]; try simp only [go_sem]) | (refine ev_condTb rfl ?_ ?_; · (simp <;> omega)) | (refine ev_condFb rfl ?_ ?_; · (simp <;> omega)) | ((first | refine ev_region ?_ | refine evr_go rfl ?_ | refine evw_go rfl ?_ | refine ev_dr0 mixed rfl (by kernel_rfl) ?_ | refine ev_dr1 mixed rfl (by kernel_rfl) ?_ | refine ev_dr2 mixed rfl (by kernel_rfl) ?_); simp only [go_sem]))
            exact zrt m_rvalf_ok
        · rw [valF_T ⟨hl, ho, fun x hx => by
            obtain ⟨j, hj, rfl⟩ := at_mem hx
            have := hk1 j hj; unfold cellsB at this; simp only [Bool.and_eq_true, decide_eq_true_eq] at this; omega, fun x hx => by
            obtain ⟨j, hj, rfl⟩ := at_mem hx
            have := hk1 j hj; unfold cellsB at this; simp only [Bool.and_eq_true] at this; exact this.1, fun o h => by
            obtain ⟨j, hj, rfl⟩ := at_mem h
            exact hi1 j (by omega)⟩]
          refine zst ?_
          exact zrt m_rvalf_ok
    · rw [valF_F fun F => ho F.o]
      refine zgo m_rvalf_ok fun W S => ?_
      exact zrt m_rvalf_ok
  · rw [valF_F fun F => hl F.d]
    refine zgo m_rvalf_ok fun W S => ?_
    exact zrt m_rvalf_ok
end Go.Proofs.YtkfpcgkmemfdaaaGreat
/- Files: validity and equality by the program, of any files. -/
namespace Go.Proofs.YtkfpcgkmemfdaaaGreat
open Go Go.RowKit Rdn Rdn.Dp
set_option linter.unusedVariables false
set_option linter.unusedSimpArgs false
theorem m_vd1_ok : compF Tryz.prog 80 = some (6, Qr ([Qc 2 (.bool false)])
 (Qr ([Qm 3 0, Qq 4 28 [(.t 3), (Qi 64)], Qp 5 (.un .not (.t 4)), Qm 2 5])
 (.ret)), [.mov (.t 2)]) := by kernel_rfl
theorem m_vd2_ok : compF Tryz.prog 82 = some (38, Qr ([Qw 2 (.box 47 (.t 0)), Qc 3 (.bool false)])
 (.seq (Qr ([Qf 4 0 0 2, Ql 5 1 4, Qk 6 .eql 5 (-1)])
 (.cond (.t 6) (Qr ([QL 7 3 2, Qw 8 (.build none [.int .i64 0, .int .i64 0, .bool false] [(0, (Qi (-1)))]), Qp 9 (.eqs true [(some .i64), (some .i64), none] (.t 7) (.t 8)), Qm 3 9])
 (.ret)) (.skip)))
 (.seq (.dreg [Qf 10 0 0 2, Ql 11 1 10, Qk 12 .lss 11 0, Qm 13 12, Q0 14 13 (.fieldA 0 0 (.t 2)), Q0 15 13 (.load false 1 (.t 14)), Q0 16 13 (.fieldA 0 0 (.t 1)), Q0 17 13 (.load false 1 (.t 16)), Q0 18 13 (.len (.t 17)), Q0 19 13 (.bin 0 .geq (.t 15) (.t 18)), Qt 20 13 19, Qm 21 20, Q0 22 21 (.fieldA 1 1 (.t 2)), Q0 23 21 (.load false 1 (.t 22)), Q0 24 21 (.bin 0 .lss (.t 23) (Qi 0)), Qt 25 21 24, Qm 26 25, Q0 27 26 (.fieldA 1 1 (.t 2)), Q0 28 26 (.load false 1 (.t 27)), Q0 29 26 (.fieldA 0 0 (.t 1)), Q0 30 26 (.load false 1 (.t 29)), Q0 31 26 (.fieldA 0 0 (.t 2)), Q0 32 26 (.load false 1 (.t 31)), Q0 33 26 (.idxA 1 (.t 30) (.t 32)), Q0 34 26 (.load false 1 (.t 33)), Q0 35 26 (.len (.t 34)), Q0 36 26 (.bin 0 .gtr (.t 28) (.t 35)), Qt 37 26 36, Qm 3 37] [[], [0], [0, 1], [0, 1, 2], [0, 1, 2, 3], [0, 1, 2, 3, 4], [0, 1, 2, 3], [0, 1, 2, 3, 6], [0, 1, 2, 3, 6, 7], [0, 1, 2, 3, 4, 5, 6, 7, 8], [0, 1, 2, 3, 4, 5, 6, 7, 8, 9], [0, 1, 2, 3, 4, 5, 6, 7, 8, 9, 10], [0, 1, 2, 3, 4, 5, 6, 7, 8, 9, 10, 11], [0, 1, 2, 3, 4, 5, 6, 7, 8, 9, 10, 11, 12], [0, 1, 2, 3, 4, 5, 6, 7, 8, 9, 10, 11, 12, 13], [0, 1, 2, 3, 4, 5, 6, 7, 8, 9, 10, 11, 12, 13, 14], [0, 1, 2, 3, 4, 5, 6, 7, 8, 9, 10, 11, 12, 13, 14, 15], [0, 1, 2, 3, 4, 5, 6, 7, 8, 9, 10, 11, 12, 13, 14, 15, 16], [0, 1, 2, 3, 4, 5, 6, 7, 8, 9, 10, 11, 12, 13, 14, 15, 16, 17], [0, 1, 2, 3, 4, 5, 6, 7, 8, 9, 10, 11, 12, 13, 14, 15, 16], [0, 1, 2, 3, 4, 5, 6, 7, 8, 9, 10, 11, 12, 13, 14, 15, 16, 19], [0, 1, 2, 3, 4, 5, 6, 7, 8, 9, 10, 11, 12, 13, 14, 15, 16], [0, 1, 2, 3, 4, 5, 6, 7, 8, 9, 10, 11, 12, 13, 14, 15, 16, 21], [0, 1, 2, 3, 4, 5, 6, 7, 8, 9, 10, 11, 12, 13, 14, 15, 16, 19, 20, 21, 22], [0, 1, 2, 3, 4, 5, 6, 7, 8, 9, 10, 11, 12, 13, 14, 15, 16, 19, 20, 21, 22, 23], [0, 1, 2, 3, 4, 5, 6, 7, 8, 9, 10, 11, 12, 13, 14, 15, 16, 19, 20, 21, 22, 23, 24], [0, 1, 2, 3, 4, 5, 6, 7, 8, 9, 10, 11, 12, 13, 14, 15, 16, 17, 18, 19, 20, 21, 22, 23, 24, 25], [0, 1, 2, 3, 4, 5, 6, 7, 8, 9, 10, 11, 12, 13, 14, 15, 16, 17, 18, 19, 20, 21, 22, 23, 24, 25, 26], [0, 1, 2, 3, 4, 5, 6, 7, 8, 9, 10, 11, 12, 13, 14, 15, 16, 17, 18, 19, 20, 21, 22, 23, 24, 25, 26, 27]])
 (.ret))), [.mov (.t 3)]) := by kernel_rfl
theorem m_idxd_ok : compF Tryz.prog 107 = some (19, Qr ([Qp 4 (.mov (Qi 0))])
 (.seq (Qr ([Qm 6 0, Qn 7 6, Qp 8 (.mov (Qi 0))])
 (.block 0 (.loop (Qr ([Qb 9 .lss 8 7])
 (.seq (.cond (.t 9) (.skip) (.exit 0))
 (.seq (.block 1 (Qr ([Qm 10 8, Qm 5 10])
 (Qr ([Qm 11 1, Qm 12 0, Qm 13 5, Qx 14 1 12 13, Ql 15 1 14, ⟨(some 16), none, (.callv (.t 11) [(.t 15)])⟩])
 (.cond (.t 16) (Qr ([Qm 17 5, Qm 4 17])
 (.ret)) (.skip)))))
 (.reg [Qk 18 .add 8 1, Qm 8 18])))))))
 (Qr ([Qp 4 (.mov (Qi (-1)))])
 (.ret))), [.mov (.t 4)]) := by kernel_rfl
theorem m_cond_ok : compF Tryz.prog 79 = some (9, Qr ([Qc 4 (.bool false)])
 (Qr ([Qm 5 0, Qm 6 1, Qq 7 107 [(.t 5), (.t 6)], Qk 8 .geq 7 0, Qm 4 8])
 (.ret)), [.mov (.t 4)]) := by kernel_rfl
theorem m_cono_ok : compF Tryz.prog 81 = some (9, Qr ([Qc 4 (.bool false)])
 (Qr ([Qm 5 0, Qm 6 1, Qq 7 99 [(.t 5), (.t 6)], Qk 8 .geq 7 0, Qm 4 8])
 (.ret)), [.mov (.t 4)]) := by kernel_rfl
theorem m_wvalf_ok : compF Tryz.prog 30 = some (23, Qr ([Qw 1 (.box 34 (.t 0)), Qc 2 (.bool false)])
 (.seq (Qr ([Qf 3 0 0 1, Ql 4 1 3, Qn 5 4, Qk 6 .gtr 5 4, Qm 7 6, Q0 8 7 (.fieldA 1 1 (.t 1)), Q0 9 7 (.load false 1 (.t 8)), Q0 10 7 (.len (.t 9)), Q0 11 7 (.bin 0 .neq (.t 10) (Qi 8)), Qt 12 7 11, Qm 13 12, Q0 14 13 (.fieldA 0 0 (.t 1)), Q0 15 13 (.load false 1 (.t 14)), ⟨(some 16), (some (13, false)), (.call 79 [(.t 15), (.c (.fn 80))])⟩, Qt 17 13 16])
 (.cond (.t 17) (Qr ([Qc 2 (.bool false)])
 (.ret)) (.skip)))
 (Qr ([Qf 18 1 1 1, Ql 19 1 18, Qp 20 (.mkf 82 [(.t 1)]), Qq 21 81 [(.t 19), (.t 20)], Qp 22 (.un .not (.t 21)), Qm 2 22])
 (.ret))), [.mov (.t 2)]) := by kernel_rfl
instance (f : Files) (o : Opn) : Decidable (okO f o) := by unfold okO; exact inferInstance
def badD (d : List Canon) : Bool := !cellsB d 64
def badO (f : Files) (o : Opn) : Bool := decide (¬ okO f o)
set_option maxHeartbeats 4000000 in
theorem vd1_fn (d : List Canon) : Fnc Tryz.prog 80 [.sl false 4 (d.map canonV)] (fun x obs => x = .bool (badD d) ∧ obs = []) := by
  have hr : badD d = !cellsB d 64 := rfl
  refine zgo m_vd1_ok fun W S => ?_
  refine zcd (wcels_fn d 64) ?_
  exact zrh m_vd1_ok hr
set_option maxHeartbeats 4000000 in
theorem idxd_fn (l : List (List Canon)) : Fnc Tryz.prog 107 [.sl false 1 (l.map (slV' false 4 canonV)), .fn 80] (fun x obs => x = .int .i64 (fnd badD l) ∧ obs = []) := by
  refine Fnc.wf fun hw => ?_
  have hm : l.length ≤ 140737488355328 := by
    have := hw.1
    simp only [V.wf, List.length_map] at this
    exact this.2
  clear hw
  refine zgo m_idxd_ok fun W S => ?_
  refine ev_loopK [0, 1, 7] (fun p : {p : Nat // p ≤ l.length ∧ ∀ j, j < p → badD l[j]! = false} => [(8, .int .i64 p.1)]) (fun _ => []) (fun p => l.length - p.1) (⟨0, by simp⟩) 0 (by simp only [go_sem]; rfl) ?_ (by first | rfl | (simp only [go_sem]; done)) (by simp) (by first | rfl | (simp only [go_sem]; done)) (by first | rfl | (simp only [go_sem]; done)) (by first | rfl | (simp only [go_sem]; done)) ?_
  · (simp only [go_sem]; (try simp []); done)
  intro J hJ
  rintro ⟨k, hk0, hk1⟩
  by_cases hlt : k < l.length
  · have hc := vd1_fn l[k]!
    cases hb : badD l[k]! with
    | true =>
      rw [hb] at hc
      have hr := fnd_at (p := badD) hlt hk1 hb
      refine zst ?_
      refine zcv (hc) ?_
      exact zrh m_idxd_ok hr
    | false =>
      rw [hb] at hc
      have hS : ∀ j, j < k + 1 → badD l[j]! = false := fun j hj => by
        by_cases e : j = k
        · subst e; exact hb
        · exact hk1 j (by omega)
      refine zst ?_
      refine zcv (hc) ?_
      exact zn0 (hJ _ (⟨k + 1, hlt, hS⟩) (by first | omega | (dsimp only; omega) | (simp; omega))) hlt
  · obtain rfl : k = l.length := by omega
    have hr := fnd_no (p := badD) hk1
    refine zst ?_
    exact zrh m_idxd_ok hr
set_option maxHeartbeats 4000000 in
theorem cond_fn (l : List (List Canon)) : Fnc Tryz.prog 79 [.sl false 1 (l.map (slV' false 4 canonV)), .fn 80] (fun x obs => x = .bool (l.any badD) ∧ obs = []) := by
  have hr := fnd_ge badD l
  refine zgo m_cond_ok fun W S => ?_
  refine zcd (idxd_fn l) ?_
  exact zrh m_cond_ok hr
theorem shut_eqs (o : Opn) : (o.file == -1 && (o.offset == 0 && o.write == false)) = decide (o = shut) := opn_eqs o shut
theorem badO_T {f : Files} {o : Opn} (h : ¬ okO f o) : badO f o = true := decT h
theorem badO_F {f : Files} {o : Opn} (h : okO f o) : badO f o = false := decF fun x => x h
set_option maxHeartbeats 8000000 in
theorem vd2_fn (f : Files) (o : Opn) (h1 : f.data.length ≤ 4) : Fnc Tryz.prog 82 [opnV o, .rp (filV f)] (fun x obs => x = .bool (badO f o) ∧ obs = []) := by
  by_cases c1 : o.file = -1
  · have hs : decide (o = shut) = !badO f o := by
      by_cases c : o = shut
      · rw [badO_F (.inl (by rw [c]; exact ⟨rfl, rfl, rfl⟩)), decT c]; rfl
      · rw [badO_T (fun h => by
          rcases h with h | h
          · exact c (opn_ext h.1 h.2.1 h.2.2)
          · omega), decF c]; rfl
    have hs2 : (o.offset == 0 && o.write == false) = !badO f o := by
      have h := shut_eqs o
      rw [show (o.file == -1) = true by simp [c1], Bool.true_and] at h
      exact h.trans hs
    refine zgo m_vd2_ok fun W S => ?_
    refine ret m_vd2_ok [] ?_; (first | (simp only [go_sem]; done) | (simp only [go_sem]; ((try dsimp only); (repeat' (refine And.intro ?_ ?_)) <;> first | with_reducible rfl | (simp only [go_sem]; done) | (simp only [go_sem]; rfl) | (simp only [go_sem, hs2, Bool.not_not]; done) | (simp only [hs2, Bool.not_not]; (try simp only [go_sem]); first | done | rfl) | (simp only [go_sem]; simp [hs2, Bool.not_not]; done) | (simp [hs2, Bool.not_not]; done) | rfl)))
  by_cases c2 : o.file < 0
  · rw [badO_T (fun h => by rcases h with h | h <;> omega)]
    refine zgo m_vd2_ok fun W S => ?_
    exact zrt m_vd2_ok
  by_cases c3 : f.data.length ≤ o.file
  · rw [badO_T (fun h => by rcases h with h | h <;> omega)]
    refine zgo m_vd2_ok fun W S => ?_
    exact zrt m_vd2_ok
  by_cases c4 : o.offset < 0
  · rw [badO_T (fun h => by rcases h with h | h <;> omega)]
    refine zgo m_vd2_ok fun W S => ?_
    exact zrt m_vd2_ok
  by_cases c5 : o.offset ≤ f.data[o.file.toNat]!.length
  · rw [badO_F (.inr ⟨by omega, by omega, by omega, c5⟩)]
    refine zgo m_vd2_ok fun W S => ?_
    exact zrt m_vd2_ok
  · rw [badO_T (fun h => by rcases h with h | h <;> omega)]
    refine zgo m_vd2_ok fun W S => ?_
    exact zrt m_vd2_ok
set_option maxHeartbeats 4000000 in
theorem idv_fn (f : Files) (l : List Opn) (h1 : f.data.length ≤ 4): Fnc Tryz.prog 99 [.sl false 3 (l.map opnV), .clo 82 [.rp (filV f)]] (fun x obs => x = .int .i64 (fnd (badO f) l) ∧ obs = []) := by
  refine Fnc.wf fun hw => ?_
  have hm : l.length ≤ 140737488355328 := by
    have := hw.1
    simp only [V.wf, List.length_map] at this
    exact this.2
  clear hw
  refine zgo m_idxo_ok fun W S => ?_
  refine ev_loopK [0, 1, 7] (fun p : {p : Nat // p ≤ l.length ∧ ∀ j, j < p → (badO f) l[j]! = false} => [(8, .int .i64 p.1)]) (fun _ => []) (fun p => l.length - p.1) (⟨0, by simp⟩) 0 (by simp only [go_sem]; rfl) ?_ (by first | rfl | (simp only [go_sem]; done)) (by simp) (by first | rfl | (simp only [go_sem]; done)) (by first | rfl | (simp only [go_sem]; done)) (by first | rfl | (simp only [go_sem]; done)) ?_
  · (simp only [go_sem]; (try simp []); done)
  intro J hJ
  rintro ⟨k, hk0, hk1⟩
  by_cases hlt : k < l.length
  · have hc := vd2_fn f l[k]! h1
    cases hb : (badO f) l[k]! with
    | true =>
      rw [hb] at hc
      have hr := fnd_at (p := (badO f)) hlt hk1 hb
      refine zst ?_
      refine zcv (hc) ?_
      exact zrh m_idxo_ok hr
    | false =>
      rw [hb] at hc
      have hS : ∀ j, j < k + 1 → (badO f) l[j]! = false := fun j hj => by
        by_cases e : j = k
        · subst e; exact hb
        · exact hk1 j (by omega)
      refine zst ?_
      refine zcv (hc) ?_
      exact zn0 (hJ _ (⟨k + 1, hlt, hS⟩) (by first | omega | (dsimp only; omega) | (simp; omega))) hlt
  · obtain rfl : k = l.length := by omega
    have hr := fnd_no (p := (badO f)) hk1
    refine zst ?_
    exact zrh m_idxo_ok hr
set_option maxHeartbeats 4000000 in
theorem cov_fn (f : Files) (l : List Opn) (h1 : f.data.length ≤ 4): Fnc Tryz.prog 81 [.sl false 3 (l.map opnV), .clo 82 [.rp (filV f)]] (fun x obs => x = .bool (l.any (badO f)) ∧ obs = []) := by
  have hr := fnd_ge (badO f) l
  refine zgo m_cono_ok fun W S => ?_
  refine zcd (idv_fn f l h1) ?_
  exact zrh m_cono_ok hr
theorem badD_no {d : List Canon} (h : badD d = false) : d.all cellB = true ∧ d.length ≤ 64 := by
  have h' : (d.all cellB && decide ((d.length : Int) ≤ 64)) = true := by
    unfold badD cellsB at h
    cases hh : (d.all cellB && decide ((d.length : Int) ≤ 64))
    · rw [hh] at h; exact absurd h (by decide)
    · rfl
  rw [Bool.and_eq_true] at h'
  exact ⟨h'.1, by have := of_decide_eq_true h'.2; omega⟩
theorem valF_iff {f : Files} (h1 : f.data.length ≤ 4) (h2 : f.opens.length = 8) : valF f = (!f.data.any badD && !f.opens.any (badO f)) := by
  by_cases F : FitF f
  · rw [valF_T F]
    have a : f.data.any badD = false := by
      rw [List.any_eq_false]
      intro x hx
      have := F.len x hx
      unfold badD cellsB
      rw [F.cell x hx, decT (by omega)]
      decide
    have b : f.opens.any (badO f) = false := by
      rw [List.any_eq_false]
      intro x hx
      rw [badO_F (F.ok x hx)]
      decide
    rw [a, b]; rfl
  · rw [valF_F F]
    cases a : f.data.any badD
    · cases b : f.opens.any (badO f)
      · rw [List.any_eq_false] at a b
        refine absurd ⟨h1, h2, fun x hx => ?_, fun x hx => ?_, fun o ho => ?_⟩ F
        · exact (badD_no (Bool.not_eq_true _ ▸ a x hx)).2
        · exact (badD_no (Bool.not_eq_true _ ▸ a x hx)).1
        · have := b o ho
          exact Classical.byContradiction fun h => this (badO_T h)
      · rfl
    · rfl
attribute [local irreducible] badD badO
set_option maxHeartbeats 8000000 in
theorem wvalf_fn (f : Files) : Fnc Tryz.prog 30 [filV f] (fun x obs => x = .bool (valF f) ∧ obs = []) := by
  by_cases h1 : f.data.length ≤ 4
  · by_cases h2 : f.opens.length = 8
    · rw [valF_iff h1 h2]
      have fd := cond_fn f.data
      cases a : f.data.any badD
      · rw [a] at fd
        refine zgo m_wvalf_ok fun W S => ?_
        refine zcd (fd) ?_
        refine zst ?_
        refine evr_cloB 20 rfl rfl (by simp only [go_sem]) ?_
        refine zcd (cov_fn f f.opens h1) ?_
        exact zrt m_wvalf_ok
      · rw [a] at fd
        refine zgo m_wvalf_ok fun W S => ?_
        refine zcd (fd) ?_
        exact zrt m_wvalf_ok
    · rw [valF_F fun F => h2 F.o]
      refine zgo m_wvalf_ok fun W S => ?_
      exact zrt m_wvalf_ok
  · rw [valF_F fun F => h1 F.d]
    refine zgo m_wvalf_ok fun W S => ?_
    exact zrt m_wvalf_ok
end Go.Proofs.YtkfpcgkmemfdaaaGreat
/- Files: New by the reference, of any words. -/
namespace Go.Proofs.YtkfpcgkmemfdaaaGreat
open Go Go.RowKit Rdn Rdn.Dp
set_option linter.unusedVariables false
set_option linter.unusedSimpArgs false
theorem m_rnew_ok : compF Tryz.prog 105 = some (55, Qr ([Qw 2 (.alloc 34 (.agg [.nilS, .nilS])), Qp 3 (.mov (Qi 0))])
 (Qr ([Qw 11 (.mkS 47 3 24 (.agg [.int .i64 0, .int .i64 0, .bool false]) (Qi 8) (Qi 8)), Qw 12 (.build none [.nilS, .nilS] [(1, (.t 11))]), Qw 4 (.alloc 34 (.agg [.nilS, .nilS])), Qs 2 4 12])
 (.seq (Qr ([Qf 13 1 1 4, Ql 14 1 13, Qn 15 14, Qp 16 (.mov (Qi 0))])
 (.block 0 (.loop (Qr ([Qb 17 .lss 16 15])
 (.seq (.cond (.t 17) (.skip) (.exit 0))
 (.seq (.block 1 (Qr ([Qm 18 16, Qm 5 18])
 (.reg [Qf 19 1 1 4, Ql 20 1 19, Qm 21 5, Qx 22 3 20 21, Qf 23 0 0 22, ⟨none, none, (.m (.store 1 (.t 23) (Qi (-1))))⟩])))
 (.reg [Qk 24 .add 16 1, Qm 16 24])))))))
 (.seq (Qr ([Qm 25 0, Qn 26 25, Qp 27 (.mov (Qi 0))])
 (.block 2 (.loop (Qr ([Qb 28 .lss 27 26])
 (.seq (.cond (.t 28) (.skip) (.exit 2))
 (.seq (.block 3 (Qr ([Qx 29 1 25 27, Ql 30 1 29, Qm 7 30])
 (Qr ([Qp 8 (.mov (.c (.nilS)))])
 (.seq (Qr ([Qm 31 7, Qn 32 31, Qp 33 (.mov (Qi 0))])
 (.block 4 (.loop (Qr ([Qb 34 .lss 33 32])
 (.seq (.cond (.t 34) (.skip) (.exit 4))
 (.seq (.block 5 (Qr ([Qx 35 1 31 33, Ql 36 1 35, Qm 10 36])
 (.reg [Qm 37 8, Qm 38 10, Qw 39 (.build none [.int .u8 0, .int .u16 0, .int .i64 0, .int .i64 0] [(1, (.t 38))]), Qw 40 (.buildS 43 4 (.agg [.int .u8 0, .int .u16 0, .int .i64 0, .int .i64 0]) 1 [(0, (.t 39))]), Qw 41 (.app 43 4 24 (.t 37) (.t 40)), Qm 8 41])))
 (.reg [Qk 42 .add 33 1, Qm 33 42])))))))
 (.reg [Qf 43 0 0 4, Ql 44 1 43, Qm 45 8, Qw 46 (.buildS 22 1 (.nilS) 1 [(0, (.t 45))]), Qw 47 (.app 22 1 24 (.t 44) (.t 46)), Qf 48 0 0 4, Qs 1 48 47])))))
 (.reg [Qk 49 .add 27 1, Qm 27 49])))))))
 (.seq (Qr ([QL 50 2 4, Qq 51 34 [(.t 50)], Qp 52 (.un .not (.t 51))])
 (.cond (.t 52) (Qr ([Qw 53 (.build none [.nilS, .nilS] []), Qs 2 2 53, Qp 3 (.mov (Qi 3))])
 (.ret)) (.skip)))
 (Qr ([QL 54 2 4, Qs 2 2 54, Qp 3 (.mov (Qi 0))])
 (.ret)))))), [.load true 2 (.t 2), .mov (.t 3)]) := by kernel_rfl
theorem new_fit {data : List (List Int)} (h : okNew data) : FitF ⟨data.map numC, eight⟩ := by
  have h' : data.length ≤ 4 ∧ ∀ x ∈ data, x.length ≤ 64 := by
    rcases h with rfl | h
    · exact ⟨by simp, by simp⟩
    · exact h
  refine ⟨by simpa using h'.1, rfl, fun x hx => ?_, fun x hx => ?_, fun o ho => ?_⟩
  · obtain ⟨w, hw, rfl⟩ := List.mem_map.1 hx
    rw [numC_len]; exact h'.2 w hw
  · obtain ⟨w, hw, rfl⟩ := List.mem_map.1 hx
    exact numC_cell w
  · simp [eight] at ho; subst ho; exact .inl ⟨rfl, rfl, rfl⟩
theorem new_unfit {data : List (List Int)} (h : ¬ okNew data) : ¬ FitF ⟨data.map numC, eight⟩ := fun F => h (.inr ⟨by simpa using F.d, fun x hx => by have := F.len (numC x) (List.mem_map.2 ⟨x, hx, rfl⟩); rwa [numC_len] at this⟩)
attribute [local irreducible] eight numC sNew
set_option maxHeartbeats 16000000 in
theorem rnew_fn (data : List (List Int)) (hd : data.length ≤ 1000) (hx : ∀ x ∈ data, x.length ≤ 1000000) : Fnc Tryz.prog 105 [.sl false 1 (data.map (slV' false 1 (V.int .u16)))] (fun x obs => x = .tup [filV (sNew data).1, .int .i64 (sNew data).2] ∧ obs = []) := by
  refine Fnc.low ?_
  have h8 := eight_V
  have fv := rvalf_fn ⟨data.map numC, eight⟩
  refine zgo m_rnew_ok fun W S => ?_
  refine ev_unroll 9 ?_
  refine zst ?_
  refine ev_adoptB 2 0 22 1 rfl rfl (by decide) rfl ?_
  refine ev_loopK [2, 4, 25, 26] (fun p : {p : Nat // p ≤ data.length} => [(27, .int .i64 p.1)]) (fun p => [⟨.box false 34, true, 0, .agg [.nilS, .nilS]⟩, ⟨.row 47, true, 0, .arr 3 (eight.map opnV)⟩, ⟨.box false 34, true, 0, .agg [.own 3 p.1, .own 1 0]⟩, ⟨.row 22, true, p.1, .arr 1 (((data.take p.1).map numC).map (slV' true 4 canonV))⟩]) (fun p => data.length - p.1) (⟨0, by simp⟩) 4 (by simp only [go_sem]; rfl) ?_ (by first | rfl | (simp only [go_sem]; done) | (simp only [go_sem]; simp [h8]; done)) (by simp) (by first | rfl | (simp only [go_sem]; done)) (by first | rfl | (simp only [go_sem]; done)) (by first | rfl | (simp only [go_sem]; done) | (simp only [h8]; (try simp only [go_sem]); first | done | rfl)) ?_
  · (simp only [go_sem]; (try simp [h8]); done)
  intro J hJ
  rintro ⟨k, hk0⟩
  by_cases hlt : k < data.length
  · have h3 := hx _ (mem_at hlt)
    have h2 : ((data.take k).map numC).length = k := by rw [List.length_map, List.length_take]; omega
    have hs : ((data.take k).map numC) ++ [numC data[k]!] = (data.take (k + 1)).map numC := by rw [take_snoc hlt, List.map_append]; rfl
    refine zst ?_
    have hJ0 := hJ
    refine ev_adopt (i := 8) (e := 43) (s := 4) rfl (by decide) ?_
    refine ev_loopK [2, 4, 25, 26, 27, 31, 32] (fun p : {p : Nat // p ≤ data[k]!.length} => [(8, .own 4 p.1), (33, .int .i64 p.1)]) (fun p => [⟨.box false 34, true, 0, .agg [.nilS, .nilS]⟩, ⟨.row 47, true, 0, .arr 3 (eight.map opnV)⟩, ⟨.box false 34, true, 0, .agg [.own 3 k, .own 1 0]⟩, ⟨.row 22, true, k, .arr 1 (((data.take k).map numC).map (slV' true 4 canonV))⟩, ⟨.row 43, true, p.1, .arr 4 ((numC (data[k]!.take p.1)).map canonV)⟩]) (fun p => data[k]!.length - p.1) (⟨0, by simp⟩) 5 (by simp only [go_sem]; rfl) ?_ (by first | rfl | (simp only [go_sem]; done) | (simp only [go_sem]; simp [numC_zero]; done)) (by simp) (by first | rfl | (simp only [go_sem]; done)) (by first | rfl | (simp only [go_sem]; done)) (by first | rfl | (simp only [go_sem]; done) | (simp only [numC_zero]; (try simp only [go_sem]); first | done | rfl)) ?_
    · (simp only [go_sem]; (try simp [numC_zero]); done)
    intro J hJ
    rintro ⟨i, hi0⟩
    by_cases hl2 : i < data[k]!.length
    · have q1 := numC_len (data[k]!.take i)
      have q2 : (data[k]!.take i).length = i := by rw [List.length_take]; omega
      have q3 := numC_snoc hl2
      refine zst ?_
      exact zn5 (hJ _ (⟨i + 1, hl2⟩) (by first | omega | (dsimp only; omega) | (simp; omega))) q3
    · obtain rfl : i = data[k]!.length := by omega
      have hJ := hJ0
      refine ev_freeze 8 rfl rfl ?_
      have hT : data[k]!.take data[k]!.length = data[k]! := List.take_length
      refine zsx hT ?_
      exact zn4 (hJ _ (⟨k + 1, hlt⟩) (by first | omega | (dsimp only; omega) | (simp; omega))) hs
  · obtain rfl : k = data.length := by omega
    have hT : data.take data.length = data := List.take_length
    by_cases c : okNew data
    · rw [valF_T (new_fit c)] at fv
      rw [sNew_T c]
      refine zsx hT ?_
      refine evr_calmA ?_; refine zev ?_
      refine zcd (fv) ?_
      exact zrt m_rnew_ok
    · rw [valF_F (new_unfit c)] at fv
      rw [sNew_F c]
      refine zsx hT ?_
      refine evr_calmA ?_; refine zev ?_
      refine zcd (fv) ?_
      refine ev_obSub 0 (.agg [.sl false 1 [], .sl false 3 []]) rfl (SubV.agg ⟨SubV.nil _ _, SubV.nil _ _, trivial⟩) rfl ?_
      exact zrt m_rnew_ok
end Go.Proofs.YtkfpcgkmemfdaaaGreat
