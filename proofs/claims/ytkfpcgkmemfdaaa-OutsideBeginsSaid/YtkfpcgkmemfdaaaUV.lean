/- UW9, UW10, UW12, UW16, UW18, in one text. -/
import Derived.Test.YtkfpcgkmemfdaaaUW678
import Derived.Test.YtkfpcgkmemfdaaaUK
import Derived.Test.YtkfpcgkmemfdaaaWMa
import Derived.Test.YtkfpcgkmemfdaaaZt
/- Files drawn. -/
namespace Go.Proofs.Ytkfpcgkmemfdaaa
open Go Go.RowKit Rdn Rdn.Dp
set_option linter.unusedVariables false
set_option linter.unusedSimpArgs false
/-- The first files, drawn. -/
def fl0 (l : List Int) (k : Nat) : Files := ⟨[numC (dws l k 5).1, numC (dws l (dws l k 5).2 3).1], eight⟩
def kl0 (l : List Int) (k : Nat) : Nat := (dws l (dws l (dws l (dws l (dws l (dws l k 5).2 3).2 8).2 4).2 5).2 5).2
theorem numC_cell (l : List Int) : (numC l).all cellB = true := by
  rw [List.all_eq_true]
  intro x hx
  obtain ⟨v, _, rfl⟩ := List.mem_map.1 hx
  exact decT (.inl ⟨.inl rfl, rfl, rfl⟩)
theorem fl0_fit (l : List Int) (k : Nat) : FitF (fl0 l k) := by
  have h1 := dws_len (l := l) (k := k) (n := 5) (by omega)
  have h2 := dws_len (l := l) (k := (dws l k 5).2) (n := 3) (by omega)
  refine ⟨by show 2 ≤ 4; omega, rfl, fun x hx => ?_, fun x hx => ?_, fun o ho => ?_⟩
  · simp [fl0] at hx
    rcases hx with rfl | rfl
    · rw [numC_len]; omega
    · rw [numC_len]; omega
  · simp [fl0] at hx
    rcases hx with rfl | rfl
    · exact numC_cell _
    · exact numC_cell _
  · simp [fl0, eight] at ho; subst ho; exact .inl ⟨rfl, rfl, rfl⟩
theorem kl0_le {l : List Int} {k : Nat} (hk : k ≤ l.length) : kl0 l k ≤ l.length := by unfold kl0; exact dws_le (dws_le (dws_le (dws_le (dws_le (dws_le hk 5) 3) 8) 4) 5) 5
theorem fl0_V (l : List Int) (k : Nat) : fsV (dws l k 5).1 (dws l (dws l k 5).2 3).1 = filV (fl0 l k) := rfl
end Go.Proofs.Ytkfpcgkmemfdaaa
/- Files: equality by the reference. -/
namespace Go.Proofs.Ytkfpcgkmemfdaaa
open Go Go.RowKit Rdn Rdn.Dp
set_option linter.unusedVariables false
set_option linter.unusedSimpArgs false
def m_samec : MC := .seq (.reg [⟨(some 4), none, (.p (.mov (.c (.bool false))))⟩])
 (.seq (.seq (.reg [⟨(some 6), none, (.p (.mov (.t 0)))⟩, ⟨(some 7), none, (.p (.len (.t 6)))⟩, ⟨(some 8), none, (.p (.mov (.t 1)))⟩, ⟨(some 9), none, (.p (.len (.t 8)))⟩, ⟨(some 10), none, (.p (.bin 0 .neq (.t 7) (.t 9)))⟩])
 (.cond (.t 10) (.seq (.reg [⟨(some 4), none, (.p (.mov (.c (.bool false))))⟩])
 (.ret)) (.skip)))
 (.seq (.seq (.reg [⟨(some 11), none, (.p (.mov (.t 0)))⟩, ⟨(some 12), none, (.p (.len (.t 11)))⟩, ⟨(some 13), none, (.p (.mov (.c (.int .i64 0))))⟩])
 (.block 0 (.loop (.seq (.reg [⟨(some 14), none, (.p (.bin 0 .lss (.t 13) (.t 12)))⟩])
 (.seq (.cond (.t 14) (.skip) (.exit 0))
 (.seq (.block 1 (.seq (.reg [⟨(some 15), none, (.p (.mov (.t 13)))⟩, ⟨(some 5), none, (.p (.mov (.t 15)))⟩])
 (.seq (.dreg [⟨(some 16), none, (.p (.mov (.t 0)))⟩, ⟨(some 17), none, (.p (.mov (.t 5)))⟩, ⟨(some 18), none, (.p (.idxA 4 (.t 16) (.t 17)))⟩, ⟨(some 19), none, (.p (.load true 4 (.t 18)))⟩, ⟨(some 20), none, (.p (.mov (.t 1)))⟩, ⟨(some 21), none, (.p (.mov (.t 5)))⟩, ⟨(some 22), none, (.p (.idxA 4 (.t 20) (.t 21)))⟩, ⟨(some 23), none, (.p (.load true 4 (.t 22)))⟩, ⟨(some 24), none, (.p (.eqs true [(some .u8), (some .u16), (some .i64), (some .i64)] (.t 19) (.t 23)))⟩] [[], [], [0, 1], [0, 1, 2], [], [], [4, 5], [4, 5, 6], [0, 1, 2, 3, 4, 5, 6, 7]])
 (.cond (.t 24) (.seq (.reg [⟨(some 4), none, (.p (.mov (.c (.bool false))))⟩])
 (.ret)) (.skip)))))
 (.reg [⟨(some 25), none, (.p (.bin 0 .add (.t 13) (.c (.int .i64 1))))⟩, ⟨(some 13), none, (.p (.mov (.t 25)))⟩])))))))
 (.seq (.reg [⟨(some 4), none, (.p (.mov (.c (.bool true))))⟩])
 (.ret))))
theorem m_samec_ok : compF Try.prog 52 = some (26, m_samec, [.mov (.t 4)]) := by kernel_rfl
def m_rsamf : MC := .seq (.reg [⟨(some 2), none, (.m (.box 28 (.t 0)))⟩, ⟨(some 3), none, (.m (.box 28 (.t 1)))⟩, ⟨(some 4), none, (.p (.mov (.c (.bool false))))⟩])
 (.seq (.seq (.reg [⟨(some 7), none, (.p (.fieldA 0 0 (.t 2)))⟩, ⟨(some 8), none, (.p (.load false 1 (.t 7)))⟩, ⟨(some 9), none, (.p (.len (.t 8)))⟩, ⟨(some 10), none, (.p (.fieldA 0 0 (.t 3)))⟩, ⟨(some 11), none, (.p (.load false 1 (.t 10)))⟩, ⟨(some 12), none, (.p (.len (.t 11)))⟩, ⟨(some 13), none, (.p (.bin 0 .neq (.t 9) (.t 12)))⟩, ⟨(some 14), none, (.p (.mov (.t 13)))⟩, ⟨(some 15), (some (14, false)), (.p (.fieldA 1 1 (.t 2)))⟩, ⟨(some 16), (some (14, false)), (.p (.load false 1 (.t 15)))⟩, ⟨(some 17), (some (14, false)), (.p (.len (.t 16)))⟩, ⟨(some 18), (some (14, false)), (.p (.fieldA 1 1 (.t 3)))⟩, ⟨(some 19), (some (14, false)), (.p (.load false 1 (.t 18)))⟩, ⟨(some 20), (some (14, false)), (.p (.len (.t 19)))⟩, ⟨(some 21), (some (14, false)), (.p (.bin 0 .neq (.t 17) (.t 20)))⟩, ⟨(some 22), none, (.p (.pick (.t 14) (.c (.bool true)) (.t 21)))⟩])
 (.cond (.t 22) (.seq (.reg [⟨(some 4), none, (.p (.mov (.c (.bool false))))⟩])
 (.ret)) (.skip)))
 (.seq (.seq (.reg [⟨(some 23), none, (.p (.fieldA 0 0 (.t 2)))⟩, ⟨(some 24), none, (.p (.load false 1 (.t 23)))⟩, ⟨(some 25), none, (.p (.len (.t 24)))⟩, ⟨(some 26), none, (.p (.mov (.c (.int .i64 0))))⟩])
 (.block 0 (.loop (.seq (.reg [⟨(some 27), none, (.p (.bin 0 .lss (.t 26) (.t 25)))⟩])
 (.seq (.cond (.t 27) (.skip) (.exit 0))
 (.seq (.block 1 (.seq (.reg [⟨(some 28), none, (.p (.mov (.t 26)))⟩, ⟨(some 5), none, (.p (.mov (.t 28)))⟩])
 (.seq (.dreg [⟨(some 29), none, (.p (.fieldA 0 0 (.t 2)))⟩, ⟨(some 30), none, (.p (.load false 1 (.t 29)))⟩, ⟨(some 31), none, (.p (.mov (.t 5)))⟩, ⟨(some 32), none, (.p (.idxA 1 (.t 30) (.t 31)))⟩, ⟨(some 33), none, (.p (.load false 1 (.t 32)))⟩, ⟨(some 34), none, (.p (.fieldA 0 0 (.t 3)))⟩, ⟨(some 35), none, (.p (.load false 1 (.t 34)))⟩, ⟨(some 36), none, (.p (.mov (.t 5)))⟩, ⟨(some 37), none, (.p (.idxA 1 (.t 35) (.t 36)))⟩, ⟨(some 38), none, (.p (.load false 1 (.t 37)))⟩, ⟨(some 39), none, (.call 52 [(.t 33), (.t 38)])⟩, ⟨(some 40), none, (.p (.un .not (.t 39)))⟩] [[], [0], [], [0, 1, 2], [0, 1, 2, 3], [], [5], [], [5, 6, 7], [5, 6, 7, 8], [0, 1, 2, 3, 4, 5, 6, 7, 8, 9], [0, 1, 2, 3, 4, 5, 6, 7, 8, 9, 10]])
 (.cond (.t 40) (.seq (.reg [⟨(some 4), none, (.p (.mov (.c (.bool false))))⟩])
 (.ret)) (.skip)))))
 (.reg [⟨(some 41), none, (.p (.bin 0 .add (.t 26) (.c (.int .i64 1))))⟩, ⟨(some 26), none, (.p (.mov (.t 41)))⟩])))))))
 (.seq (.seq (.reg [⟨(some 42), none, (.p (.fieldA 1 1 (.t 2)))⟩, ⟨(some 43), none, (.p (.load false 1 (.t 42)))⟩, ⟨(some 44), none, (.p (.len (.t 43)))⟩, ⟨(some 45), none, (.p (.mov (.c (.int .i64 0))))⟩])
 (.block 2 (.loop (.seq (.reg [⟨(some 46), none, (.p (.bin 0 .lss (.t 45) (.t 44)))⟩])
 (.seq (.cond (.t 46) (.skip) (.exit 2))
 (.seq (.block 3 (.seq (.reg [⟨(some 47), none, (.p (.mov (.t 45)))⟩, ⟨(some 6), none, (.p (.mov (.t 47)))⟩])
 (.seq (.dreg [⟨(some 48), none, (.p (.fieldA 1 1 (.t 2)))⟩, ⟨(some 49), none, (.p (.load false 1 (.t 48)))⟩, ⟨(some 50), none, (.p (.mov (.t 6)))⟩, ⟨(some 51), none, (.p (.idxA 3 (.t 49) (.t 50)))⟩, ⟨(some 52), none, (.p (.load true 3 (.t 51)))⟩, ⟨(some 53), none, (.p (.fieldA 1 1 (.t 3)))⟩, ⟨(some 54), none, (.p (.load false 1 (.t 53)))⟩, ⟨(some 55), none, (.p (.mov (.t 6)))⟩, ⟨(some 56), none, (.p (.idxA 3 (.t 54) (.t 55)))⟩, ⟨(some 57), none, (.p (.load true 3 (.t 56)))⟩, ⟨(some 58), none, (.p (.eqs true [(some .i64), (some .i64), none] (.t 52) (.t 57)))⟩] [[], [0], [], [0, 1, 2], [0, 1, 2, 3], [], [5], [], [5, 6, 7], [5, 6, 7, 8], [0, 1, 2, 3, 4, 5, 6, 7, 8, 9]])
 (.cond (.t 58) (.seq (.reg [⟨(some 4), none, (.p (.mov (.c (.bool false))))⟩])
 (.ret)) (.skip)))))
 (.reg [⟨(some 59), none, (.p (.bin 0 .add (.t 45) (.c (.int .i64 1))))⟩, ⟨(some 45), none, (.p (.mov (.t 59)))⟩])))))))
 (.seq (.reg [⟨(some 4), none, (.p (.mov (.c (.bool true))))⟩])
 (.ret)))))
theorem m_rsamf_ok : compF Try.prog 29 = some (60, m_rsamf, [.mov (.t 4)]) := by kernel_rfl
set_option maxHeartbeats 4000000 in
theorem samec_fn (a b : List Canon) : Fnc Try.prog 52 [.sl false 4 (a.map canonV), .sl false 4 (b.map canonV)] (fun x obs => x = .bool (decide (a = b)) ∧ obs = []) := by
  refine Fnc.wf fun hw => ?_
  simp only [V.wfs, V.wf, wfs_map, List.length_map] at hw
  have hm := hw.1.2
  have hm' := hw.2.1.2
  by_cases hl : a.length = b.length
  · skip
    refine Fnc.intro m_samec_ok (by simp) fun W S => ?_
    unfold m_samec
    simp only [ents, Nat.zero_add, Nat.reduceAdd]
    refine zst ?_
    refine ev_loopK [0, 1, 12] (fun p : {p : Nat // p ≤ a.length ∧ a.take p = b.take p} => [(13, .int .i64 p.1)]) (fun _ => []) (fun p => a.length - p.1) (⟨0, by simp⟩) 0 (by simp only [go_sem]; rfl) ?_ (by first | rfl | (simp only [go_sem]; done)) (by simp) (by first | rfl | (simp only [go_sem]; done)) (by first | rfl | (simp only [go_sem]; done)) (by first | rfl | (simp only [go_sem]; done)) ?_
    · (simp only [go_sem]; (try simp []); done)
    intro J hJ
    rintro ⟨k, hk0, hk1⟩
    by_cases hlt : k < a.length
    · by_cases e : a[k]! = b[k]!
      · skip
        refine zst ?_
        refine ev_next 0 (hJ _ (⟨k + 1, hlt, by rw [take_snoc hlt, take_snoc (by omega), hk1, e]⟩) (by first | omega | (dsimp only; omega) | (simp; omega))) rfl (by simp) ?_ (by first | rfl | (simp only [go_sem]; done)) (by first | rfl | (simp only [go_sem]; done) | (simp only [hlt]; (try simp only [go_sem]); first | done | rfl)) ?_
        · exact zna hlt
        · exact znb hlt
      · have hne : a ≠ b := fun h => e (at_of_eq h k)
        refine zst ?_
        refine ret m_samec_ok [] ?_; (first | (simp only [go_sem]; done) | (simp only [go_sem]; exact ⟨rfl, rfl⟩))
    · have hab := eq_of_take (by omega) (by omega) hk1
      refine zst ?_
      refine ret m_samec_ok [] ?_; (first | (simp only [go_sem]; done) | (simp only [go_sem]; exact ⟨rfl, rfl⟩))
  · have hne : a ≠ b := fun h => hl (by rw [h])
    refine Fnc.intro m_samec_ok (by simp) fun W S => ?_
    unfold m_samec
    simp only [ents, Nat.zero_add, Nat.reduceAdd]
    refine zst ?_
    refine ret m_samec_ok [] ?_; (first | (simp only [go_sem]; done) | (simp only [go_sem]; exact ⟨rfl, rfl⟩))
theorem opn_ext {a b : Opn} (h1 : a.file = b.file) (h2 : a.offset = b.offset) (h3 : a.write = b.write) : a = b := by
  obtain ⟨a1, a2, a3⟩ := a
  obtain ⟨b1, b2, b3⟩ := b
  simp only at h1 h2 h3
  rw [h1, h2, h3]
theorem opn_eqs (a b : Opn) : (a.file == b.file && (a.offset == b.offset && a.write == b.write)) = decide (a = b) := by
  by_cases e : a = b
  · subst e; simp
  · rw [decF e]
    by_cases h1 : a.file = b.file
    · by_cases h2 : a.offset = b.offset
      · have h3 : a.write ≠ b.write := fun h3 => e (opn_ext h1 h2 h3)
        simp [h1, h2, h3]
      · simp [h2]
    · simp [h1]
theorem files_ext {a b : Files} (h1 : a.data = b.data) (h2 : a.opens = b.opens) : a = b := by
  obtain ⟨a1, a2⟩ := a
  obtain ⟨b1, b2⟩ := b
  simp only at h1 h2
  rw [h1, h2]
set_option maxHeartbeats 8000000 in
theorem rsamf_fn (a b : Files) : Fnc Try.prog 29 [filV a, filV b] (fun x obs => x = .bool (decide (a = b)) ∧ obs = []) := by
  refine Fnc.wf fun hw => ?_
  simp only [V.wfs, V.wf, List.length_map] at hw
  have m1 := hw.1.1.2
  have m2 := hw.1.2.1.2
  have m3 := hw.2.1.1.2
  have m4 := hw.2.1.2.1.2
  clear hw
  by_cases hl : a.data.length = b.data.length
  · by_cases ho : a.opens.length = b.opens.length
    · skip
      refine Fnc.intro m_rsamf_ok (by simp) fun W S => ?_
      unfold m_rsamf
      simp only [ents, Nat.zero_add, Nat.reduceAdd]
      refine zst ?_
      refine ev_loopK [2, 3, 25] (fun p : {p : Nat // p ≤ a.data.length ∧ a.data.take p = b.data.take p} => [(26, .int .i64 p.1)]) (fun _ => [⟨.box false 28, true, 0, filV a⟩, ⟨.box false 28, true, 0, filV b⟩]) (fun p => a.data.length - p.1) (⟨0, by simp⟩) 2 (by simp only [go_sem]; rfl) ?_ (by first | rfl | (simp only [go_sem]; done)) (by simp) (by first | rfl | (simp only [go_sem]; done)) (by first | rfl | (simp only [go_sem]; done)) (by first | rfl | (simp only [go_sem]; done)) ?_
      · (simp only [go_sem]; (try simp []); done)
      intro J hJ
      rintro ⟨k, hk0, hk1⟩
      by_cases hlt : k < a.data.length
      · by_cases e : a.data[k]! = b.data[k]!
        · have hd : decide (a.data[k]! = b.data[k]!) = true := decT e
          refine zst ?_
          (first | refine callD (samec_fn a.data[k]! b.data[k]!) ?_ | refine callDw (samec_fn a.data[k]! b.data[k]!) ?_); simp only [go_sem, hd]
          refine zst ?_
          refine ev_next 2 (hJ _ (⟨k + 1, hlt, by rw [take_snoc hlt, take_snoc (by omega), hk1, e]⟩) (by first | omega | (dsimp only; omega) | (simp; omega))) rfl (by simp) ?_ (by first | rfl | (simp only [go_sem]; done)) (by first | rfl | (simp only [go_sem]; done) | (simp only [hlt]; (try simp only [go_sem]); first | done | rfl)) ?_
          · exact zna hlt
          · exact znb hlt
        · have hd : decide (a.data[k]! = b.data[k]!) = false := decF e
          have hr : decide (a = b) = false := decF fun h => e (by rw [h])
          refine zst ?_
          (first | refine callD (samec_fn a.data[k]! b.data[k]!) ?_ | refine callDw (samec_fn a.data[k]! b.data[k]!) ?_); simp only [go_sem, hd]
          refine zst ?_
          refine ret m_rsamf_ok [] ?_; exact zfh hr
      · have hab := eq_of_take (by omega) (by omega) hk1
        refine zst ?_
        refine ev_loopK [2, 3, 44] (fun p : {p : Nat // p ≤ a.opens.length ∧ a.opens.take p = b.opens.take p} => [(45, .int .i64 p.1)]) (fun _ => [⟨.box false 28, true, 0, filV a⟩, ⟨.box false 28, true, 0, filV b⟩]) (fun p => a.opens.length - p.1) (⟨0, by simp⟩) 2 (by simp only [go_sem]; rfl) ?_ (by first | rfl | (simp only [go_sem]; done)) (by simp) (by first | rfl | (simp only [go_sem]; done)) (by first | rfl | (simp only [go_sem]; done)) (by first | rfl | (simp only [go_sem]; done)) ?_
        · (simp only [go_sem]; (try simp []); done)
        intro J hJ
        rintro ⟨i, hi0, hi1⟩
        by_cases hlt2 : i < a.opens.length
        · by_cases e : a.opens[i]! = b.opens[i]!
          · have hd : decide (a.opens[i]! = b.opens[i]!) = true := decT e
            repeat (first | (simp only [opn_eqs, hd]; try simp only [go_sem]) | refine And.intro (by omega) ?_ | refine And.intro rfl ?_ | refine ev_ctl rfl rfl ?_ | refine evr_nil ?_ | refine evw_nil (by kernel_rfl) ?_ | (simp (disch := omega) only [takeAll, Nat.min_eq_left, Nat.min_eq_right, if_pos, if_neg, getD_map, wrapI64, modIn, fdivE, tmodE, tdivE, decT, decF, beqT, beqF, bneT, bneF, Int.toNat_natCast]; try simp only [go_sem]) | (refine ev_condTb rfl ?_ ?_; · (simp <;> omega)) | (refine ev_condFb rfl ?_ ?_; · (simp <;> omega)) | ((first | refine ev_region ?_ | refine evr_go rfl ?_ | refine evw_go rfl ?_ | refine ev_dr0 mixed rfl (by kernel_rfl) ?_ | refine ev_dr1 mixed rfl (by kernel_rfl) ?_ | refine ev_dr2 mixed rfl (by kernel_rfl) ?_); simp only [go_sem]))
            refine ev_next 2 (hJ _ (⟨i + 1, hlt2, by rw [take_snoc hlt2, take_snoc (by omega), hi1, e]⟩) (by first | omega | (dsimp only; omega) | (simp; omega))) rfl (by simp) ?_ (by first | rfl | (simp only [go_sem]; done)) (by first | rfl | (simp only [go_sem]; done) | (simp only [hlt2]; (try simp only [go_sem]); first | done | rfl)) ?_
            · exact zna hlt2
            · exact znb hlt2
          · have hd : decide (a.opens[i]! = b.opens[i]!) = false := decF e
            have hr : decide (a = b) = false := decF fun h => e (by rw [h])
            repeat (first | (simp only [opn_eqs, hd]; try simp only [go_sem]) | refine And.intro (by omega) ?_ | refine And.intro rfl ?_ | refine ev_ctl rfl rfl ?_ | refine evr_nil ?_ | refine evw_nil (by kernel_rfl) ?_ | (simp (disch := omega) only [takeAll, Nat.min_eq_left, Nat.min_eq_right, if_pos, if_neg, getD_map, wrapI64, modIn, fdivE, tmodE, tdivE, decT, decF, beqT, beqF, bneT, bneF, Int.toNat_natCast]; try simp only [go_sem]) | (refine ev_condTb rfl ?_ ?_; · (simp <;> omega)) | (refine ev_condFb rfl ?_ ?_; · (simp <;> omega)) | ((first | refine ev_region ?_ | refine evr_go rfl ?_ | refine evw_go rfl ?_ | refine ev_dr0 mixed rfl (by kernel_rfl) ?_ | refine ev_dr1 mixed rfl (by kernel_rfl) ?_ | refine ev_dr2 mixed rfl (by kernel_rfl) ?_); simp only [go_sem]))
            refine ret m_rsamf_ok [] ?_; exact zfh hr
        · have hr : decide (a = b) = true := decT (files_ext hab (eq_of_take (by omega) (by omega) hi1))
          refine zst ?_
          refine ret m_rsamf_ok [] ?_; exact zfh hr
    · have hr : decide (a = b) = false := decF fun h => ho (by rw [h])
      refine Fnc.intro m_rsamf_ok (by simp) fun W S => ?_
      unfold m_rsamf
      simp only [ents, Nat.zero_add, Nat.reduceAdd]
      refine zst ?_
      refine ret m_rsamf_ok [] ?_; exact zfh hr
  · have hr : decide (a = b) = false := decF fun h => hl (by rw [h])
    refine Fnc.intro m_rsamf_ok (by simp) fun W S => ?_
    unfold m_rsamf
    simp only [ents, Nat.zero_add, Nat.reduceAdd]
    refine zst ?_
    refine ret m_rsamf_ok [] ?_; exact zfh hr
end Go.Proofs.Ytkfpcgkmemfdaaa
/- Files: validity by the reference. -/
namespace Go.Proofs.Ytkfpcgkmemfdaaa
open Go Go.RowKit Rdn Rdn.Dp
set_option linter.unusedVariables false
set_option linter.unusedSimpArgs false
def m_rvalf : MC := .seq (.reg [⟨(some 1), none, (.m (.box 28 (.t 0)))⟩, ⟨(some 2), none, (.p (.mov (.c (.bool false))))⟩])
 (.seq (.seq (.reg [⟨(some 7), none, (.p (.fieldA 0 0 (.t 1)))⟩, ⟨(some 8), none, (.p (.load false 1 (.t 7)))⟩, ⟨(some 9), none, (.p (.len (.t 8)))⟩, ⟨(some 10), none, (.p (.bin 0 .gtr (.t 9) (.c (.int .i64 4))))⟩, ⟨(some 11), none, (.p (.mov (.t 10)))⟩, ⟨(some 12), (some (11, false)), (.p (.fieldA 1 1 (.t 1)))⟩, ⟨(some 13), (some (11, false)), (.p (.load false 1 (.t 12)))⟩, ⟨(some 14), (some (11, false)), (.p (.len (.t 13)))⟩, ⟨(some 15), (some (11, false)), (.p (.bin 0 .neq (.t 14) (.c (.int .i64 8))))⟩, ⟨(some 16), none, (.p (.pick (.t 11) (.c (.bool true)) (.t 15)))⟩])
 (.cond (.t 16) (.seq (.reg [⟨(some 2), none, (.p (.mov (.c (.bool false))))⟩])
 (.ret)) (.skip)))
 (.seq (.seq (.reg [⟨(some 17), none, (.p (.fieldA 0 0 (.t 1)))⟩, ⟨(some 18), none, (.p (.load false 1 (.t 17)))⟩, ⟨(some 19), none, (.p (.len (.t 18)))⟩, ⟨(some 20), none, (.p (.mov (.c (.int .i64 0))))⟩])
 (.block 0 (.loop (.seq (.reg [⟨(some 21), none, (.p (.bin 0 .lss (.t 20) (.t 19)))⟩])
 (.seq (.cond (.t 21) (.skip) (.exit 0))
 (.seq (.block 1 (.seq (.reg [⟨(some 22), none, (.p (.idxA 1 (.t 18) (.t 20)))⟩, ⟨(some 23), none, (.p (.load false 1 (.t 22)))⟩, ⟨(some 4), none, (.p (.mov (.t 23)))⟩])
 (.seq (.reg [⟨(some 24), none, (.p (.mov (.t 4)))⟩, ⟨(some 25), none, (.call 48 [(.t 24), (.c (.int .i64 64))])⟩, ⟨(some 26), none, (.p (.un .not (.t 25)))⟩])
 (.cond (.t 26) (.seq (.reg [⟨(some 2), none, (.p (.mov (.c (.bool false))))⟩])
 (.ret)) (.skip)))))
 (.reg [⟨(some 27), none, (.p (.bin 0 .add (.t 20) (.c (.int .i64 1))))⟩, ⟨(some 20), none, (.p (.mov (.t 27)))⟩])))))))
 (.seq (.seq (.reg [⟨(some 28), none, (.p (.fieldA 1 1 (.t 1)))⟩, ⟨(some 29), none, (.p (.load false 1 (.t 28)))⟩, ⟨(some 30), none, (.p (.len (.t 29)))⟩, ⟨(some 31), none, (.p (.mov (.c (.int .i64 0))))⟩])
 (.block 2 (.loop (.seq (.reg [⟨(some 32), none, (.p (.bin 0 .lss (.t 31) (.t 30)))⟩])
 (.seq (.cond (.t 32) (.skip) (.exit 2))
 (.seq (.block 3 (.seq (.reg [⟨(some 33), none, (.p (.idxA 3 (.t 29) (.t 31)))⟩, ⟨(some 34), none, (.p (.load true 3 (.t 33)))⟩, ⟨(some 6), none, (.m (.alloc 102 (.agg [.int .i64 0, .int .i64 0, .bool false])))⟩, ⟨none, none, (.m (.store 3 (.t 6) (.t 34)))⟩])
 (.seq (.dreg [⟨(some 35), none, (.p (.fieldA 0 0 (.t 6)))⟩, ⟨(some 36), none, (.p (.load false 1 (.t 35)))⟩, ⟨(some 37), none, (.p (.bin 0 .eql (.t 36) (.c (.int .i64 (-1)))))⟩, ⟨(some 38), none, (.p (.mov (.t 37)))⟩, ⟨(some 39), (some (38, true)), (.p (.fieldA 1 1 (.t 6)))⟩, ⟨(some 40), (some (38, true)), (.p (.load false 1 (.t 39)))⟩, ⟨(some 41), (some (38, true)), (.p (.bin 0 .neq (.t 40) (.c (.int .i64 0))))⟩, ⟨(some 42), (some (38, true)), (.p (.mov (.t 41)))⟩, ⟨(some 43), (some (42, false)), (.p (.fieldA 2 2 (.t 6)))⟩, ⟨(some 44), (some (42, false)), (.p (.load false 1 (.t 43)))⟩, ⟨(some 45), (some (38, true)), (.p (.pick (.t 42) (.c (.bool true)) (.t 44)))⟩, ⟨(some 46), none, (.p (.pick (.t 38) (.t 45) (.c (.bool false))))⟩, ⟨(some 47), none, (.p (.mov (.t 46)))⟩, ⟨(some 48), (some (47, false)), (.p (.fieldA 0 0 (.t 6)))⟩, ⟨(some 49), (some (47, false)), (.p (.load false 1 (.t 48)))⟩, ⟨(some 50), (some (47, false)), (.p (.bin 0 .lss (.t 49) (.c (.int .i64 (-1)))))⟩, ⟨(some 51), none, (.p (.pick (.t 47) (.c (.bool true)) (.t 50)))⟩, ⟨(some 52), none, (.p (.mov (.t 51)))⟩, ⟨(some 53), (some (52, false)), (.p (.fieldA 0 0 (.t 6)))⟩, ⟨(some 54), (some (52, false)), (.p (.load false 1 (.t 53)))⟩, ⟨(some 55), (some (52, false)), (.p (.fieldA 0 0 (.t 1)))⟩, ⟨(some 56), (some (52, false)), (.p (.load false 1 (.t 55)))⟩, ⟨(some 57), (some (52, false)), (.p (.len (.t 56)))⟩, ⟨(some 58), (some (52, false)), (.p (.bin 0 .geq (.t 54) (.t 57)))⟩, ⟨(some 59), none, (.p (.pick (.t 52) (.c (.bool true)) (.t 58)))⟩, ⟨(some 60), none, (.p (.mov (.t 59)))⟩, ⟨(some 61), (some (60, false)), (.p (.fieldA 0 0 (.t 6)))⟩, ⟨(some 62), (some (60, false)), (.p (.load false 1 (.t 61)))⟩, ⟨(some 63), (some (60, false)), (.p (.bin 0 .geq (.t 62) (.c (.int .i64 0))))⟩, ⟨(some 64), (some (60, false)), (.p (.mov (.t 63)))⟩, ⟨(some 65), (some (64, true)), (.p (.fieldA 1 1 (.t 6)))⟩, ⟨(some 66), (some (64, true)), (.p (.load false 1 (.t 65)))⟩, ⟨(some 67), (some (64, true)), (.p (.bin 0 .lss (.t 66) (.c (.int .i64 0))))⟩, ⟨(some 68), (some (64, true)), (.p (.mov (.t 67)))⟩, ⟨(some 69), (some (68, false)), (.p (.fieldA 1 1 (.t 6)))⟩, ⟨(some 70), (some (68, false)), (.p (.load false 1 (.t 69)))⟩, ⟨(some 71), (some (68, false)), (.p (.fieldA 0 0 (.t 1)))⟩, ⟨(some 72), (some (68, false)), (.p (.load false 1 (.t 71)))⟩, ⟨(some 73), (some (68, false)), (.p (.fieldA 0 0 (.t 6)))⟩, ⟨(some 74), (some (68, false)), (.p (.load false 1 (.t 73)))⟩, ⟨(some 75), (some (68, false)), (.p (.idxA 1 (.t 72) (.t 74)))⟩, ⟨(some 76), (some (68, false)), (.p (.load false 1 (.t 75)))⟩, ⟨(some 77), (some (68, false)), (.p (.len (.t 76)))⟩, ⟨(some 78), (some (68, false)), (.p (.bin 0 .gtr (.t 70) (.t 77)))⟩, ⟨(some 79), (some (64, true)), (.p (.pick (.t 68) (.c (.bool true)) (.t 78)))⟩, ⟨(some 80), (some (60, false)), (.p (.pick (.t 64) (.t 79) (.c (.bool false))))⟩, ⟨(some 81), none, (.p (.pick (.t 60) (.c (.bool true)) (.t 80)))⟩] [[], [0], [0, 1], [0, 1, 2], [0, 1, 2, 3], [0, 1, 2, 3, 4], [0, 1, 2, 3, 4, 5], [0, 1, 2, 3, 4, 5, 6], [0, 1, 2, 3, 4, 5, 6, 7], [0, 1, 2, 3, 4, 5, 6, 7, 8], [0, 1, 2, 3, 4, 5, 6, 7, 8, 9], [0, 1, 2, 3, 4, 5, 6, 7, 8, 9, 10], [0, 1, 2, 3, 4, 5, 6, 7, 8, 9, 10, 11], [0, 1, 2, 3, 4, 5, 6, 7, 8, 9, 10, 11, 12], [0, 1, 2, 3, 4, 5, 6, 7, 8, 9, 10, 11, 12, 13], [0, 1, 2, 3, 4, 5, 6, 7, 8, 9, 10, 11, 12, 13, 14], [0, 1, 2, 3, 4, 5, 6, 7, 8, 9, 10, 11, 12, 13, 14, 15], [0, 1, 2, 3, 4, 5, 6, 7, 8, 9, 10, 11, 12, 13, 14, 15, 16], [0, 1, 2, 3, 4, 5, 6, 7, 8, 9, 10, 11, 12, 13, 14, 15, 16, 17], [0, 1, 2, 3, 4, 5, 6, 7, 8, 9, 10, 11, 12, 13, 14, 15, 16, 17, 18], [0, 1, 2, 3, 4, 5, 6, 7, 8, 9, 10, 11, 12, 13, 14, 15, 16, 17], [0, 1, 2, 3, 4, 5, 6, 7, 8, 9, 10, 11, 12, 13, 14, 15, 16, 17, 20], [0, 1, 2, 3, 4, 5, 6, 7, 8, 9, 10, 11, 12, 13, 14, 15, 16, 17, 20, 21], [0, 1, 2, 3, 4, 5, 6, 7, 8, 9, 10, 11, 12, 13, 14, 15, 16, 17, 18, 19, 20, 21, 22], [0, 1, 2, 3, 4, 5, 6, 7, 8, 9, 10, 11, 12, 13, 14, 15, 16, 17, 18, 19, 20, 21, 22, 23], [0, 1, 2, 3, 4, 5, 6, 7, 8, 9, 10, 11, 12, 13, 14, 15, 16, 17, 18, 19, 20, 21, 22, 23, 24], [0, 1, 2, 3, 4, 5, 6, 7, 8, 9, 10, 11, 12, 13, 14, 15, 16, 17, 18, 19, 20, 21, 22, 23, 24, 25], [0, 1, 2, 3, 4, 5, 6, 7, 8, 9, 10, 11, 12, 13, 14, 15, 16, 17, 18, 19, 20, 21, 22, 23, 24, 25, 26], [0, 1, 2, 3, 4, 5, 6, 7, 8, 9, 10, 11, 12, 13, 14, 15, 16, 17, 18, 19, 20, 21, 22, 23, 24, 25, 26, 27], [0, 1, 2, 3, 4, 5, 6, 7, 8, 9, 10, 11, 12, 13, 14, 15, 16, 17, 18, 19, 20, 21, 22, 23, 24, 25, 26, 27, 28], [0, 1, 2, 3, 4, 5, 6, 7, 8, 9, 10, 11, 12, 13, 14, 15, 16, 17, 18, 19, 20, 21, 22, 23, 24, 25, 26, 27, 28, 29], [0, 1, 2, 3, 4, 5, 6, 7, 8, 9, 10, 11, 12, 13, 14, 15, 16, 17, 18, 19, 20, 21, 22, 23, 24, 25, 26, 27, 28, 29, 30], [0, 1, 2, 3, 4, 5, 6, 7, 8, 9, 10, 11, 12, 13, 14, 15, 16, 17, 18, 19, 20, 21, 22, 23, 24, 25, 26, 27, 28, 29, 30, 31], [0, 1, 2, 3, 4, 5, 6, 7, 8, 9, 10, 11, 12, 13, 14, 15, 16, 17, 18, 19, 20, 21, 22, 23, 24, 25, 26, 27, 28, 29, 30, 31, 32], [0, 1, 2, 3, 4, 5, 6, 7, 8, 9, 10, 11, 12, 13, 14, 15, 16, 17, 18, 19, 20, 21, 22, 23, 24, 25, 26, 27, 28, 29, 30, 31, 32, 33], [0, 1, 2, 3, 4, 5, 6, 7, 8, 9, 10, 11, 12, 13, 14, 15, 16, 17, 18, 19, 20, 21, 22, 23, 24, 25, 26, 27, 28, 29, 30, 31, 32, 33, 34], [0, 1, 2, 3, 4, 5, 6, 7, 8, 9, 10, 11, 12, 13, 14, 15, 16, 17, 18, 19, 20, 21, 22, 23, 24, 25, 26, 27, 28, 29, 30, 31, 32, 33], [0, 1, 2, 3, 4, 5, 6, 7, 8, 9, 10, 11, 12, 13, 14, 15, 16, 17, 18, 19, 20, 21, 22, 23, 24, 25, 26, 27, 28, 29, 30, 31, 32, 33, 36], [0, 1, 2, 3, 4, 5, 6, 7, 8, 9, 10, 11, 12, 13, 14, 15, 16, 17, 18, 19, 20, 21, 22, 23, 24, 25, 26, 27, 28, 29, 30, 31, 32, 33], [0, 1, 2, 3, 4, 5, 6, 7, 8, 9, 10, 11, 12, 13, 14, 15, 16, 17, 18, 19, 20, 21, 22, 23, 24, 25, 26, 27, 28, 29, 30, 31, 32, 33, 38], [0, 1, 2, 3, 4, 5, 6, 7, 8, 9, 10, 11, 12, 13, 14, 15, 16, 17, 18, 19, 20, 21, 22, 23, 24, 25, 26, 27, 28, 29, 30, 31, 32, 33, 36, 37, 38, 39], [0, 1, 2, 3, 4, 5, 6, 7, 8, 9, 10, 11, 12, 13, 14, 15, 16, 17, 18, 19, 20, 21, 22, 23, 24, 25, 26, 27, 28, 29, 30, 31, 32, 33, 36, 37, 38, 39, 40], [0, 1, 2, 3, 4, 5, 6, 7, 8, 9, 10, 11, 12, 13, 14, 15, 16, 17, 18, 19, 20, 21, 22, 23, 24, 25, 26, 27, 28, 29, 30, 31, 32, 33, 36, 37, 38, 39, 40, 41], [0, 1, 2, 3, 4, 5, 6, 7, 8, 9, 10, 11, 12, 13, 14, 15, 16, 17, 18, 19, 20, 21, 22, 23, 24, 25, 26, 27, 28, 29, 30, 31, 32, 33, 34, 35, 36, 37, 38, 39, 40, 41, 42], [0, 1, 2, 3, 4, 5, 6, 7, 8, 9, 10, 11, 12, 13, 14, 15, 16, 17, 18, 19, 20, 21, 22, 23, 24, 25, 26, 27, 28, 29, 30, 31, 32, 33, 34, 35, 36, 37, 38, 39, 40, 41, 42, 43], [0, 1, 2, 3, 4, 5, 6, 7, 8, 9, 10, 11, 12, 13, 14, 15, 16, 17, 18, 19, 20, 21, 22, 23, 24, 25, 26, 27, 28, 29, 30, 31, 32, 33, 34, 35, 36, 37, 38, 39, 40, 41, 42, 43, 44], [0, 1, 2, 3, 4, 5, 6, 7, 8, 9, 10, 11, 12, 13, 14, 15, 16, 17, 18, 19, 20, 21, 22, 23, 24, 25, 26, 27, 28, 29, 30, 31, 32, 33, 34, 35, 36, 37, 38, 39, 40, 41, 42, 43, 44, 45]])
 (.cond (.t 81) (.seq (.reg [⟨(some 2), none, (.p (.mov (.c (.bool false))))⟩])
 (.ret)) (.skip)))))
 (.reg [⟨(some 82), none, (.p (.bin 0 .add (.t 31) (.c (.int .i64 1))))⟩, ⟨(some 31), none, (.p (.mov (.t 82)))⟩])))))))
 (.seq (.reg [⟨(some 2), none, (.p (.mov (.c (.bool true))))⟩])
 (.ret)))))
theorem m_rvalf_ok : compF Try.prog 49 = some (83, m_rvalf, [.mov (.t 2)]) := by kernel_rfl
/-- Whether files are valid. -/
noncomputable def valF (f : Files) : Bool := @decide (FitF f) (Classical.propDecidable _)
theorem valF_T {f : Files} (h : FitF f) : valF f = true := by unfold valF; exact @decide_eq_true _ (Classical.propDecidable _) h
theorem valF_F {f : Files} (h : ¬ FitF f) : valF f = false := by unfold valF; exact @decide_eq_false _ (Classical.propDecidable _) h
theorem cellsB_F {f : Files} {k : Nat} (hk : k < f.data.length) (h : cellsB f.data[k]! 64 = false) : ¬ FitF f := fun F => by
  have h1 := F.len _ (mem_at hk)
  have h2 := F.cell _ (mem_at hk)
  unfold cellsB at h
  rw [h2, decT (by omega)] at h
  exact absurd h (by decide)
theorem okO_F {f : Files} {i : Nat} (hi : i < f.opens.length) (h : ¬ okO f f.opens[i]!) : ¬ FitF f := fun F => h (F.ok _ (mem_at hi))
set_option maxHeartbeats 16000000 in
theorem rvalf_fn (f : Files) : Fnc Try.prog 49 [filV f] (fun x obs => x = .bool (valF f) ∧ obs = []) := by
  refine Fnc.wf fun hw => ?_
  have hm : ∀ k, k < f.data.length → f.data[k]!.length ≤ 140737488355328 := fun k hk => by
    have := hw.1
    simp only [V.wf, V.wfs, wfs_map] at this
    have := this.1.1 _ (mem_at hk)
    simp only [slV', V.wf, List.length_map] at this
    exact this.2
  simp only [V.wfs, V.wf, List.length_map] at hw
  have m1 := hw.1.1.2
  have m2 := hw.1.2.1.2
  clear hw
  by_cases hl : f.data.length ≤ 4
  · by_cases ho : f.opens.length = 8
    · skip
      refine Fnc.intro m_rvalf_ok (by simp) fun W S => ?_
      unfold m_rvalf
      simp only [ents, Nat.zero_add, Nat.reduceAdd]
      refine zst ?_
      refine ev_loopK [1, 18, 19] (fun p : {p : Nat // p ≤ f.data.length ∧ ∀ j, j < p → cellsB f.data[j]! 64 = true} => [(20, .int .i64 p.1)]) (fun _ => [⟨.box false 28, true, 0, filV f⟩]) (fun p => f.data.length - p.1) (⟨0, by simp⟩) 1 (by simp only [go_sem]; rfl) ?_ (by first | rfl | (simp only [go_sem]; done)) (by simp) (by first | rfl | (simp only [go_sem]; done)) (by first | rfl | (simp only [go_sem]; done)) (by first | rfl | (simp only [go_sem]; done)) ?_
      · (simp only [go_sem]; (try simp []); done)
      intro J hJ
      rintro ⟨k, hk0, hk1⟩
      by_cases hlt : k < f.data.length
      · have h3 := hm k hlt
        have fc := rcels_fn f.data[k]! 64
        by_cases e : cellsB f.data[k]! 64 = true
        · rw [e] at fc
          have hS : ∀ j, j < k + 1 → cellsB f.data[j]! 64 = true := fun j hj => by
            by_cases e' : j = k
            · subst e'; exact e
            · exact hk1 j (by omega)
          refine zst ?_
          (first | refine callD (fc) ?_ | refine callDw (fc) ?_); simp only [go_sem]
          refine zst ?_
          refine ev_next 1 (hJ _ (⟨k + 1, hlt, hS⟩) (by first | omega | (dsimp only; omega) | (simp; omega))) rfl (by simp) ?_ (by first | rfl | (simp only [go_sem]; done)) (by first | rfl | (simp only [go_sem]; done) | (simp only [hlt]; (try simp only [go_sem]); first | done | rfl)) ?_
          · exact zna hlt
          · exact znb hlt
        · rw [Bool.not_eq_true] at e
          rw [e] at fc
          rw [valF_F (cellsB_F hlt e)]
          refine zst ?_
          (first | refine callD (fc) ?_ | refine callDw (fc) ?_); simp only [go_sem]
          refine zst ?_
          refine ret m_rvalf_ok [] ?_; exact zfn
      · obtain rfl : k = f.data.length := by omega
        refine zst ?_
        refine ev_loopK [1, 29, 30] (fun p : {p : Nat // p ≤ 8 ∧ ∀ j, j < p → okO f f.opens[j]!} => [(31, .int .i64 p.1)]) (fun _ => [⟨.box false 28, true, 0, filV f⟩]) (fun p => 8 - p.1) (⟨0, by simp⟩) 1 (by simp only [go_sem]; rfl) ?_ (by first | rfl | (simp only [go_sem]; done)) (by simp) (by first | rfl | (simp only [go_sem]; done)) (by first | rfl | (simp only [go_sem]; done)) (by first | rfl | (simp only [go_sem]; done)) ?_
        · (simp only [go_sem]; (try simp []); done)
        intro J hJ
        rintro ⟨i, hi0, hi1⟩
        by_cases hlt2 : i < 8
        · have hS (h : okO f f.opens[i]!) : ∀ j, j < i + 1 → okO f f.opens[j]! := fun j hj => by
            by_cases e' : j = i
            · subst e'; exact h
            · exact hi1 j (by omega)
          have hF := fun h => okO_F (f := f) (i := i) (by omega) h
          generalize ho' : f.opens[i]! = o at hS hF
          by_cases c1 : o.file = -1
          · by_cases c2 : o.offset = 0
            · cases c3 : o.write
              · have hS := hS (.inl ⟨c1, c2, c3⟩)
                repeat (first | (simp only [ho', c3]; try simp only [go_sem]) | refine And.intro (by omega) ?_ | refine And.intro rfl ?_ | refine ev_ctl rfl rfl ?_ | refine evr_nil ?_ | refine evw_nil (by kernel_rfl) ?_ | (simp (disch := omega) only [takeAll, Nat.min_eq_left, Nat.min_eq_right, if_pos, if_neg, getD_map, wrapI64, modIn, fdivE, tmodE, tdivE, decT, decF, beqT, beqF, bneT, bneF, Int.toNat_natCast]; try simp only [go_sem]) | (refine ev_condTb rfl ?_ ?_; · (simp <;> omega)) | (refine ev_condFb rfl ?_ ?_; · (simp <;> omega)) | ((first | refine ev_region ?_ | refine evr_go rfl ?_ | refine evw_go rfl ?_ | refine ev_dr0 mixed rfl (by kernel_rfl) ?_ | refine ev_dr1 mixed rfl (by kernel_rfl) ?_ | refine ev_dr2 mixed rfl (by kernel_rfl) ?_); simp only [go_sem]))
                refine ev_next 1 (hJ _ (⟨i + 1, hlt2, hS⟩) (by first | omega | (dsimp only; omega) | (simp; omega))) rfl (by simp) ?_ (by first | rfl | (simp only [go_sem]; done)) (by first | rfl | (simp only [go_sem]; done) | (simp only [hlt2]; (try simp only [go_sem]); first | done | rfl)) ?_
                · exact zna hlt2
                · exact znb hlt2
              · rw [valF_F (hF fun h => by
                  rcases h with h | h
                  · rw [c3] at h; exact absurd h.2.2 (by decide)
                  · omega)]
                repeat (first | (simp only [ho', c3]; try simp only [go_sem]) | refine And.intro (by omega) ?_ | refine And.intro rfl ?_ | refine ev_ctl rfl rfl ?_ | refine evr_nil ?_ | refine evw_nil (by kernel_rfl) ?_ | (simp (disch := omega) only [takeAll, Nat.min_eq_left, Nat.min_eq_right, if_pos, if_neg, getD_map, wrapI64, modIn, fdivE, tmodE, tdivE, decT, decF, beqT, beqF, bneT, bneF, Int.toNat_natCast]; try simp only [go_sem]) | (refine ev_condTb rfl ?_ ?_; · (simp <;> omega)) | (refine ev_condFb rfl ?_ ?_; · (simp <;> omega)) | ((first | refine ev_region ?_ | refine evr_go rfl ?_ | refine evw_go rfl ?_ | refine ev_dr0 mixed rfl (by kernel_rfl) ?_ | refine ev_dr1 mixed rfl (by kernel_rfl) ?_ | refine ev_dr2 mixed rfl (by kernel_rfl) ?_); simp only [go_sem]))
                refine ret m_rvalf_ok [] ?_; exact zfn
            · rw [valF_F (hF fun h => by rcases h with h | h <;> omega)]
              repeat (first | (simp only [ho']; try simp only [go_sem]) | refine And.intro (by omega) ?_ | refine And.intro rfl ?_ | refine ev_ctl rfl rfl ?_ | refine evr_nil ?_ | refine evw_nil (by kernel_rfl) ?_ | (simp (disch := omega) only [takeAll, Nat.min_eq_left, Nat.min_eq_right, if_pos, if_neg, getD_map, wrapI64, modIn, fdivE, tmodE, tdivE, decT, decF, beqT, beqF, bneT, bneF, Int.toNat_natCast]; try simp only [go_sem]) | (refine ev_condTb rfl ?_ ?_; · (simp <;> omega)) | (refine ev_condFb rfl ?_ ?_; · (simp <;> omega)) | ((first | refine ev_region ?_ | refine evr_go rfl ?_ | refine evw_go rfl ?_ | refine ev_dr0 mixed rfl (by kernel_rfl) ?_ | refine ev_dr1 mixed rfl (by kernel_rfl) ?_ | refine ev_dr2 mixed rfl (by kernel_rfl) ?_); simp only [go_sem]))
              refine ret m_rvalf_ok [] ?_; exact zfn
          by_cases c2 : o.file < -1
          · rw [valF_F (hF fun h => by rcases h with h | h <;> omega)]
            repeat (first | (simp only [ho']; try simp only [go_sem]) | refine And.intro (by omega) ?_ | refine And.intro rfl ?_ | refine ev_ctl rfl rfl ?_ | refine evr_nil ?_ | refine evw_nil (by kernel_rfl) ?_ | (simp (disch := omega) only [takeAll, Nat.min_eq_left, Nat.min_eq_right, if_pos, if_neg, getD_map, wrapI64, modIn, fdivE, tmodE, tdivE, decT, decF, beqT, beqF, bneT, bneF, Int.toNat_natCast]; try simp only [go_sem]) | (refine ev_condTb rfl ?_ ?_; · (simp <;> omega)) | (refine ev_condFb rfl ?_ ?_; · (simp <;> omega)) | ((first | refine ev_region ?_ | refine evr_go rfl ?_ | refine evw_go rfl ?_ | refine ev_dr0 mixed rfl (by kernel_rfl) ?_ | refine ev_dr1 mixed rfl (by kernel_rfl) ?_ | refine ev_dr2 mixed rfl (by kernel_rfl) ?_); simp only [go_sem]))
            refine ret m_rvalf_ok [] ?_; exact zfn
          by_cases c3 : f.data.length ≤ o.file
          · rw [valF_F (hF fun h => by rcases h with h | h <;> omega)]
            repeat (first | (simp only [ho']; try simp only [go_sem]) | refine And.intro (by omega) ?_ | refine And.intro rfl ?_ | refine ev_ctl rfl rfl ?_ | refine evr_nil ?_ | refine evw_nil (by kernel_rfl) ?_ | (simp (disch := omega) only [takeAll, Nat.min_eq_left, Nat.min_eq_right, if_pos, if_neg, getD_map, wrapI64, modIn, fdivE, tmodE, tdivE, decT, decF, beqT, beqF, bneT, bneF, Int.toNat_natCast]; try simp only [go_sem]) | (refine ev_condTb rfl ?_ ?_; · (simp <;> omega)) | (refine ev_condFb rfl ?_ ?_; · (simp <;> omega)) | ((first | refine ev_region ?_ | refine evr_go rfl ?_ | refine evw_go rfl ?_ | refine ev_dr0 mixed rfl (by kernel_rfl) ?_ | refine ev_dr1 mixed rfl (by kernel_rfl) ?_ | refine ev_dr2 mixed rfl (by kernel_rfl) ?_); simp only [go_sem]))
            refine ret m_rvalf_ok [] ?_; exact zfn
          by_cases c4 : o.offset < 0
          · rw [valF_F (hF fun h => by rcases h with h | h <;> omega)]
            repeat (first | (simp only [ho']; try simp only [go_sem]) | refine And.intro (by omega) ?_ | refine And.intro rfl ?_ | refine ev_ctl rfl rfl ?_ | refine evr_nil ?_ | refine evw_nil (by kernel_rfl) ?_ | (simp (disch := omega) only [takeAll, Nat.min_eq_left, Nat.min_eq_right, if_pos, if_neg, getD_map, wrapI64, modIn, fdivE, tmodE, tdivE, decT, decF, beqT, beqF, bneT, bneF, Int.toNat_natCast]; try simp only [go_sem]) | (refine ev_condTb rfl ?_ ?_; · (simp <;> omega)) | (refine ev_condFb rfl ?_ ?_; · (simp <;> omega)) | ((first | refine ev_region ?_ | refine evr_go rfl ?_ | refine evw_go rfl ?_ | refine ev_dr0 mixed rfl (by kernel_rfl) ?_ | refine ev_dr1 mixed rfl (by kernel_rfl) ?_ | refine ev_dr2 mixed rfl (by kernel_rfl) ?_); simp only [go_sem]))
            refine ret m_rvalf_ok [] ?_; exact zfn
          by_cases c5 : o.offset ≤ f.data[o.file.toNat]!.length
          · have hS := hS (.inr ⟨by omega, by omega, by omega, c5⟩)
            repeat (first | (simp only [ho']; try simp only [go_sem]) | refine And.intro (by omega) ?_ | refine And.intro rfl ?_ | refine ev_ctl rfl rfl ?_ | refine evr_nil ?_ | refine evw_nil (by kernel_rfl) ?_ | (simp (disch := omega) only [takeAll, Nat.min_eq_left, Nat.min_eq_right, if_pos, if_neg, getD_map, wrapI64, modIn, fdivE, tmodE, tdivE, decT, decF, beqT, beqF, bneT, bneF, Int.toNat_natCast]; try simp only [go_sem]) | (refine ev_condTb rfl ?_ ?_; · (simp <;> omega)) | (refine ev_condFb rfl ?_ ?_; · (simp <;> omega)) | ((first | refine ev_region ?_ | refine evr_go rfl ?_ | refine evw_go rfl ?_ | refine ev_dr0 mixed rfl (by kernel_rfl) ?_ | refine ev_dr1 mixed rfl (by kernel_rfl) ?_ | refine ev_dr2 mixed rfl (by kernel_rfl) ?_); simp only [go_sem]))
            refine ev_next 1 (hJ _ (⟨i + 1, hlt2, hS⟩) (by first | omega | (dsimp only; omega) | (simp; omega))) rfl (by simp) ?_ (by first | rfl | (simp only [go_sem]; done)) (by first | rfl | (simp only [go_sem]; done) | (simp only [hlt2]; (try simp only [go_sem]); first | done | rfl)) ?_
            · exact zna hlt2
            · exact znb hlt2
          · rw [valF_F (hF fun h => by rcases h with h | h <;> omega)]
            repeat (first | (simp only [ho']; try simp only [go_sem]) | refine And.intro (by omega) ?_ | refine And.intro rfl ?_ | refine ev_ctl rfl rfl ?_ | refine evr_nil ?_ | refine evw_nil (by kernel_rfl) ?_ | (simp (disch := omega) only [takeAll, Nat.min_eq_left, Nat.min_eq_right, if_pos, if_neg, getD_map, wrapI64, modIn, fdivE, tmodE, tdivE, decT, decF, beqT, beqF, bneT, bneF, Int.toNat_natCast]; try simp only [go_sem]) | (refine ev_condTb rfl ?_ ?_; · (simp <;> omega)) | (refine ev_condFb rfl ?_ ?_; · (simp <;> omega)) | ((first | refine ev_region ?_ | refine evr_go rfl ?_ | refine evw_go rfl ?_ | refine ev_dr0 mixed rfl (by kernel_rfl) ?_ | refine ev_dr1 mixed rfl (by kernel_rfl) ?_ | refine ev_dr2 mixed rfl (by kernel_rfl) ?_); simp only [go_sem]))
            refine ret m_rvalf_ok [] ?_; exact zfn
        · rw [valF_T ⟨hl, ho, fun x hx => by
            obtain ⟨j, hj, rfl⟩ := at_mem hx
            have := hk1 j hj; unfold cellsB at this; simp only [Bool.and_eq_true, decide_eq_true_eq] at this; omega, fun x hx => by
            obtain ⟨j, hj, rfl⟩ := at_mem hx
            have := hk1 j hj; unfold cellsB at this; simp only [Bool.and_eq_true] at this; exact this.1, fun o h => by
            obtain ⟨j, hj, rfl⟩ := at_mem h
            exact hi1 j (by omega)⟩]
          refine zst ?_
          refine ret m_rvalf_ok [] ?_; exact zfn
    · rw [valF_F fun F => ho F.o]
      refine Fnc.intro m_rvalf_ok (by simp) fun W S => ?_
      unfold m_rvalf
      simp only [ents, Nat.zero_add, Nat.reduceAdd]
      refine zst ?_
      refine ret m_rvalf_ok [] ?_; exact zfn
  · rw [valF_F fun F => hl F.d]
    refine Fnc.intro m_rvalf_ok (by simp) fun W S => ?_
    unfold m_rvalf
    simp only [ents, Nat.zero_add, Nat.reduceAdd]
    refine zst ?_
    refine ret m_rvalf_ok [] ?_; exact zfn
end Go.Proofs.Ytkfpcgkmemfdaaa
/- Files: validity and equality by the program, of any files. -/
namespace Go.Proofs.Ytkfpcgkmemfdaaa
open Go Go.RowKit Rdn Rdn.Dp
set_option linter.unusedVariables false
set_option linter.unusedSimpArgs false
def m_vd1 : MC := .seq (.reg [⟨(some 2), none, (.p (.mov (.c (.bool false))))⟩])
 (.seq (.reg [⟨(some 3), none, (.p (.mov (.t 0)))⟩, ⟨(some 4), none, (.call 59 [(.t 3), (.c (.int .i64 64))])⟩, ⟨(some 5), none, (.p (.un .not (.t 4)))⟩, ⟨(some 2), none, (.p (.mov (.t 5)))⟩])
 (.ret))
theorem m_vd1_ok : compF Try.prog 95 = some (6, m_vd1, [.mov (.t 2)]) := by kernel_rfl
def m_vd2 : MC := .seq (.reg [⟨(some 2), none, (.m (.box 102 (.t 0)))⟩, ⟨(some 3), none, (.p (.mov (.c (.bool false))))⟩])
 (.seq (.seq (.reg [⟨(some 4), none, (.p (.fieldA 0 0 (.t 2)))⟩, ⟨(some 5), none, (.p (.load false 1 (.t 4)))⟩, ⟨(some 6), none, (.p (.bin 0 .eql (.t 5) (.c (.int .i64 (-1)))))⟩])
 (.cond (.t 6) (.seq (.reg [⟨(some 7), none, (.p (.load true 3 (.t 2)))⟩, ⟨(some 8), none, (.m (.build none [.int .i64 0, .int .i64 0, .bool false] [(0, (.c (.int .i64 (-1))))]))⟩, ⟨(some 9), none, (.p (.eqs true [(some .i64), (some .i64), none] (.t 7) (.t 8)))⟩, ⟨(some 3), none, (.p (.mov (.t 9)))⟩])
 (.ret)) (.skip)))
 (.seq (.dreg [⟨(some 10), none, (.p (.fieldA 0 0 (.t 2)))⟩, ⟨(some 11), none, (.p (.load false 1 (.t 10)))⟩, ⟨(some 12), none, (.p (.bin 0 .lss (.t 11) (.c (.int .i64 0))))⟩, ⟨(some 13), none, (.p (.mov (.t 12)))⟩, ⟨(some 14), (some (13, false)), (.p (.fieldA 0 0 (.t 2)))⟩, ⟨(some 15), (some (13, false)), (.p (.load false 1 (.t 14)))⟩, ⟨(some 16), (some (13, false)), (.p (.fieldA 0 0 (.t 1)))⟩, ⟨(some 17), (some (13, false)), (.p (.load false 1 (.t 16)))⟩, ⟨(some 18), (some (13, false)), (.p (.len (.t 17)))⟩, ⟨(some 19), (some (13, false)), (.p (.bin 0 .geq (.t 15) (.t 18)))⟩, ⟨(some 20), none, (.p (.pick (.t 13) (.c (.bool true)) (.t 19)))⟩, ⟨(some 21), none, (.p (.mov (.t 20)))⟩, ⟨(some 22), (some (21, false)), (.p (.fieldA 1 1 (.t 2)))⟩, ⟨(some 23), (some (21, false)), (.p (.load false 1 (.t 22)))⟩, ⟨(some 24), (some (21, false)), (.p (.bin 0 .lss (.t 23) (.c (.int .i64 0))))⟩, ⟨(some 25), none, (.p (.pick (.t 21) (.c (.bool true)) (.t 24)))⟩, ⟨(some 26), none, (.p (.mov (.t 25)))⟩, ⟨(some 27), (some (26, false)), (.p (.fieldA 1 1 (.t 2)))⟩, ⟨(some 28), (some (26, false)), (.p (.load false 1 (.t 27)))⟩, ⟨(some 29), (some (26, false)), (.p (.fieldA 0 0 (.t 1)))⟩, ⟨(some 30), (some (26, false)), (.p (.load false 1 (.t 29)))⟩, ⟨(some 31), (some (26, false)), (.p (.fieldA 0 0 (.t 2)))⟩, ⟨(some 32), (some (26, false)), (.p (.load false 1 (.t 31)))⟩, ⟨(some 33), (some (26, false)), (.p (.idxA 1 (.t 30) (.t 32)))⟩, ⟨(some 34), (some (26, false)), (.p (.load false 1 (.t 33)))⟩, ⟨(some 35), (some (26, false)), (.p (.len (.t 34)))⟩, ⟨(some 36), (some (26, false)), (.p (.bin 0 .gtr (.t 28) (.t 35)))⟩, ⟨(some 37), none, (.p (.pick (.t 26) (.c (.bool true)) (.t 36)))⟩, ⟨(some 3), none, (.p (.mov (.t 37)))⟩] [[], [0], [0, 1], [0, 1, 2], [0, 1, 2, 3], [0, 1, 2, 3, 4], [0, 1, 2, 3], [0, 1, 2, 3, 6], [0, 1, 2, 3, 6, 7], [0, 1, 2, 3, 4, 5, 6, 7, 8], [0, 1, 2, 3, 4, 5, 6, 7, 8, 9], [0, 1, 2, 3, 4, 5, 6, 7, 8, 9, 10], [0, 1, 2, 3, 4, 5, 6, 7, 8, 9, 10, 11], [0, 1, 2, 3, 4, 5, 6, 7, 8, 9, 10, 11, 12], [0, 1, 2, 3, 4, 5, 6, 7, 8, 9, 10, 11, 12, 13], [0, 1, 2, 3, 4, 5, 6, 7, 8, 9, 10, 11, 12, 13, 14], [0, 1, 2, 3, 4, 5, 6, 7, 8, 9, 10, 11, 12, 13, 14, 15], [0, 1, 2, 3, 4, 5, 6, 7, 8, 9, 10, 11, 12, 13, 14, 15, 16], [0, 1, 2, 3, 4, 5, 6, 7, 8, 9, 10, 11, 12, 13, 14, 15, 16, 17], [0, 1, 2, 3, 4, 5, 6, 7, 8, 9, 10, 11, 12, 13, 14, 15, 16], [0, 1, 2, 3, 4, 5, 6, 7, 8, 9, 10, 11, 12, 13, 14, 15, 16, 19], [0, 1, 2, 3, 4, 5, 6, 7, 8, 9, 10, 11, 12, 13, 14, 15, 16], [0, 1, 2, 3, 4, 5, 6, 7, 8, 9, 10, 11, 12, 13, 14, 15, 16, 21], [0, 1, 2, 3, 4, 5, 6, 7, 8, 9, 10, 11, 12, 13, 14, 15, 16, 19, 20, 21, 22], [0, 1, 2, 3, 4, 5, 6, 7, 8, 9, 10, 11, 12, 13, 14, 15, 16, 19, 20, 21, 22, 23], [0, 1, 2, 3, 4, 5, 6, 7, 8, 9, 10, 11, 12, 13, 14, 15, 16, 19, 20, 21, 22, 23, 24], [0, 1, 2, 3, 4, 5, 6, 7, 8, 9, 10, 11, 12, 13, 14, 15, 16, 17, 18, 19, 20, 21, 22, 23, 24, 25], [0, 1, 2, 3, 4, 5, 6, 7, 8, 9, 10, 11, 12, 13, 14, 15, 16, 17, 18, 19, 20, 21, 22, 23, 24, 25, 26], [0, 1, 2, 3, 4, 5, 6, 7, 8, 9, 10, 11, 12, 13, 14, 15, 16, 17, 18, 19, 20, 21, 22, 23, 24, 25, 26, 27]])
 (.ret)))
theorem m_vd2_ok : compF Try.prog 97 = some (38, m_vd2, [.mov (.t 3)]) := by kernel_rfl
def m_idxd : MC := .seq (.reg [⟨(some 4), none, (.p (.mov (.c (.int .i64 0))))⟩])
 (.seq (.seq (.reg [⟨(some 6), none, (.p (.mov (.t 0)))⟩, ⟨(some 7), none, (.p (.len (.t 6)))⟩, ⟨(some 8), none, (.p (.mov (.c (.int .i64 0))))⟩])
 (.block 0 (.loop (.seq (.reg [⟨(some 9), none, (.p (.bin 0 .lss (.t 8) (.t 7)))⟩])
 (.seq (.cond (.t 9) (.skip) (.exit 0))
 (.seq (.block 1 (.seq (.reg [⟨(some 10), none, (.p (.mov (.t 8)))⟩, ⟨(some 5), none, (.p (.mov (.t 10)))⟩])
 (.seq (.reg [⟨(some 11), none, (.p (.mov (.t 1)))⟩, ⟨(some 12), none, (.p (.mov (.t 0)))⟩, ⟨(some 13), none, (.p (.mov (.t 5)))⟩, ⟨(some 14), none, (.p (.idxA 1 (.t 12) (.t 13)))⟩, ⟨(some 15), none, (.p (.load false 1 (.t 14)))⟩, ⟨(some 16), none, (.callv (.t 11) [(.t 15)])⟩])
 (.cond (.t 16) (.seq (.reg [⟨(some 17), none, (.p (.mov (.t 5)))⟩, ⟨(some 4), none, (.p (.mov (.t 17)))⟩])
 (.ret)) (.skip)))))
 (.reg [⟨(some 18), none, (.p (.bin 0 .add (.t 8) (.c (.int .i64 1))))⟩, ⟨(some 8), none, (.p (.mov (.t 18)))⟩])))))))
 (.seq (.reg [⟨(some 4), none, (.p (.mov (.c (.int .i64 (-1)))))⟩])
 (.ret)))
theorem m_idxd_ok : compF Try.prog 106 = some (19, m_idxd, [.mov (.t 4)]) := by kernel_rfl
def m_cond : MC := .seq (.reg [⟨(some 4), none, (.p (.mov (.c (.bool false))))⟩])
 (.seq (.reg [⟨(some 5), none, (.p (.mov (.t 0)))⟩, ⟨(some 6), none, (.p (.mov (.t 1)))⟩, ⟨(some 7), none, (.call 106 [(.t 5), (.t 6)])⟩, ⟨(some 8), none, (.p (.bin 0 .geq (.t 7) (.c (.int .i64 0))))⟩, ⟨(some 4), none, (.p (.mov (.t 8)))⟩])
 (.ret))
theorem m_cond_ok : compF Try.prog 94 = some (9, m_cond, [.mov (.t 4)]) := by kernel_rfl
def m_cono : MC := .seq (.reg [⟨(some 4), none, (.p (.mov (.c (.bool false))))⟩])
 (.seq (.reg [⟨(some 5), none, (.p (.mov (.t 0)))⟩, ⟨(some 6), none, (.p (.mov (.t 1)))⟩, ⟨(some 7), none, (.call 88 [(.t 5), (.t 6)])⟩, ⟨(some 8), none, (.p (.bin 0 .geq (.t 7) (.c (.int .i64 0))))⟩, ⟨(some 4), none, (.p (.mov (.t 8)))⟩])
 (.ret))
theorem m_cono_ok : compF Try.prog 96 = some (9, m_cono, [.mov (.t 4)]) := by kernel_rfl
def m_wvalf : MC := .seq (.reg [⟨(some 1), none, (.m (.box 28 (.t 0)))⟩, ⟨(some 2), none, (.p (.mov (.c (.bool false))))⟩])
 (.seq (.seq (.reg [⟨(some 3), none, (.p (.fieldA 0 0 (.t 1)))⟩, ⟨(some 4), none, (.p (.load false 1 (.t 3)))⟩, ⟨(some 5), none, (.p (.len (.t 4)))⟩, ⟨(some 6), none, (.p (.bin 0 .gtr (.t 5) (.c (.int .i64 4))))⟩, ⟨(some 7), none, (.p (.mov (.t 6)))⟩, ⟨(some 8), (some (7, false)), (.p (.fieldA 1 1 (.t 1)))⟩, ⟨(some 9), (some (7, false)), (.p (.load false 1 (.t 8)))⟩, ⟨(some 10), (some (7, false)), (.p (.len (.t 9)))⟩, ⟨(some 11), (some (7, false)), (.p (.bin 0 .neq (.t 10) (.c (.int .i64 8))))⟩, ⟨(some 12), none, (.p (.pick (.t 7) (.c (.bool true)) (.t 11)))⟩, ⟨(some 13), none, (.p (.mov (.t 12)))⟩, ⟨(some 14), (some (13, false)), (.p (.fieldA 0 0 (.t 1)))⟩, ⟨(some 15), (some (13, false)), (.p (.load false 1 (.t 14)))⟩, ⟨(some 16), (some (13, false)), (.call 94 [(.t 15), (.c (.fn 95))])⟩, ⟨(some 17), none, (.p (.pick (.t 13) (.c (.bool true)) (.t 16)))⟩])
 (.cond (.t 17) (.seq (.reg [⟨(some 2), none, (.p (.mov (.c (.bool false))))⟩])
 (.ret)) (.skip)))
 (.seq (.reg [⟨(some 18), none, (.p (.fieldA 1 1 (.t 1)))⟩, ⟨(some 19), none, (.p (.load false 1 (.t 18)))⟩, ⟨(some 20), none, (.p (.mkf 97 [(.t 1)]))⟩, ⟨(some 21), none, (.call 96 [(.t 19), (.t 20)])⟩, ⟨(some 22), none, (.p (.un .not (.t 21)))⟩, ⟨(some 2), none, (.p (.mov (.t 22)))⟩])
 (.ret)))
theorem m_wvalf_ok : compF Try.prog 61 = some (23, m_wvalf, [.mov (.t 2)]) := by kernel_rfl
instance (f : Files) (o : Opn) : Decidable (okO f o) := by unfold okO; exact inferInstance
def badD (d : List Canon) : Bool := !cellsB d 64
def badO (f : Files) (o : Opn) : Bool := decide (¬ okO f o)
set_option maxHeartbeats 4000000 in
theorem vd1_fn (d : List Canon) : Fnc Try.prog 95 [.sl false 4 (d.map canonV)] (fun x obs => x = .bool (badD d) ∧ obs = []) := by
  have hr : badD d = !cellsB d 64 := rfl
  refine Fnc.intro m_vd1_ok (by simp) fun W S => ?_
  unfold m_vd1
  simp only [ents, Nat.zero_add, Nat.reduceAdd]
  refine zst ?_
  (first | refine callD (wcels_fn d 64) ?_ | refine callDw (wcels_fn d 64) ?_); simp only [go_sem]
  refine zst ?_
  refine ret m_vd1_ok [] ?_; exact zfh hr
set_option maxHeartbeats 4000000 in
theorem idxd_fn (l : List (List Canon)) : Fnc Try.prog 106 [.sl false 1 (l.map (slV' false 4 canonV)), .fn 95] (fun x obs => x = .int .i64 (fnd badD l) ∧ obs = []) := by
  refine Fnc.wf fun hw => ?_
  have hm : l.length ≤ 140737488355328 := by
    have := hw.1
    simp only [V.wf, List.length_map] at this
    exact this.2
  clear hw
  refine Fnc.intro m_idxd_ok (by simp) fun W S => ?_
  unfold m_idxd
  simp only [ents, Nat.zero_add, Nat.reduceAdd]
  refine zst ?_
  refine ev_loopK [0, 1, 7] (fun p : {p : Nat // p ≤ l.length ∧ ∀ j, j < p → badD l[j]! = false} => [(8, .int .i64 p.1)]) (fun _ => []) (fun p => l.length - p.1) (⟨0, by simp⟩) 0 (by simp only [go_sem]; rfl) ?_ (by first | rfl | (simp only [go_sem]; done)) (by simp) (by first | rfl | (simp only [go_sem]; done)) (by first | rfl | (simp only [go_sem]; done)) (by first | rfl | (simp only [go_sem]; done)) ?_
  · (simp only [go_sem]; (try simp []); done)
  intro J hJ
  rintro ⟨k, hk0, hk1⟩
  by_cases hlt : k < l.length
  · have hc := vd1_fn l[k]!
    cases hb : badD l[k]! with
    | true =>
      rw [hb] at hc
      have hr := fnd_at (p := badD) hlt hk1 hb
      refine zst ?_
      refine callDv (hc) (by kernel_rfl) rfl ?_; simp only [go_sem]
      refine zst ?_
      refine ret m_idxd_ok [] ?_; exact zfh hr
    | false =>
      rw [hb] at hc
      have hS : ∀ j, j < k + 1 → badD l[j]! = false := fun j hj => by
        by_cases e : j = k
        · subst e; exact hb
        · exact hk1 j (by omega)
      refine zst ?_
      refine callDv (hc) (by kernel_rfl) rfl ?_; simp only [go_sem]
      refine zst ?_
      refine ev_next 0 (hJ _ (⟨k + 1, hlt, hS⟩) (by first | omega | (dsimp only; omega) | (simp; omega))) rfl (by simp) ?_ (by first | rfl | (simp only [go_sem]; done)) (by first | rfl | (simp only [go_sem]; done) | (simp only [hlt]; (try simp only [go_sem]); first | done | rfl)) ?_
      · exact zna hlt
      · exact znb hlt
  · obtain rfl : k = l.length := by omega
    have hr := fnd_no (p := badD) hk1
    refine zst ?_
    refine ret m_idxd_ok [] ?_; exact zfh hr
set_option maxHeartbeats 4000000 in
theorem cond_fn (l : List (List Canon)) : Fnc Try.prog 94 [.sl false 1 (l.map (slV' false 4 canonV)), .fn 95] (fun x obs => x = .bool (l.any badD) ∧ obs = []) := by
  have hr := fnd_ge badD l
  refine Fnc.intro m_cond_ok (by simp) fun W S => ?_
  unfold m_cond
  simp only [ents, Nat.zero_add, Nat.reduceAdd]
  refine zst ?_
  (first | refine callD (idxd_fn l) ?_ | refine callDw (idxd_fn l) ?_); simp only [go_sem]
  refine zst ?_
  refine ret m_cond_ok [] ?_; exact zfh hr
theorem shut_eqs (o : Opn) : (o.file == -1 && (o.offset == 0 && o.write == false)) = decide (o = shut) := opn_eqs o shut
theorem badO_T {f : Files} {o : Opn} (h : ¬ okO f o) : badO f o = true := decT h
theorem badO_F {f : Files} {o : Opn} (h : okO f o) : badO f o = false := decF fun x => x h
set_option maxHeartbeats 8000000 in
theorem vd2_fn (f : Files) (o : Opn) (h1 : f.data.length ≤ 4) : Fnc Try.prog 97 [opnV o, .rp (filV f)] (fun x obs => x = .bool (badO f o) ∧ obs = []) := by
  by_cases c1 : o.file = -1
  · have hs : decide (o = shut) = !badO f o := by
      by_cases c : o = shut
      · rw [badO_F (.inl (by rw [c]; exact ⟨rfl, rfl, rfl⟩)), decT c]; rfl
      · rw [badO_T (fun h => by
          rcases h with h | h
          · exact c (opn_ext h.1 h.2.1 h.2.2)
          · omega), decF c]; rfl
    have hs2 : (o.offset == 0 && o.write == false) = !badO f o := by
      have h := shut_eqs o
      rw [show (o.file == -1) = true by simp [c1], Bool.true_and] at h
      exact h.trans hs
    refine Fnc.intro m_vd2_ok (by simp) fun W S => ?_
    unfold m_vd2
    simp only [ents, Nat.zero_add, Nat.reduceAdd]
    refine zst ?_
    refine ret m_vd2_ok [] ?_; (first | (simp only [go_sem]; done) | (simp only [go_sem]; ((try dsimp only); (repeat' (refine And.intro ?_ ?_)) <;> first | with_reducible rfl | (simp only [go_sem]; done) | (simp only [go_sem]; rfl) | (simp only [go_sem, hs2, Bool.not_not]; done) | (simp only [hs2, Bool.not_not]; (try simp only [go_sem]); first | done | rfl) | (simp only [go_sem]; simp [hs2, Bool.not_not]; done) | (simp [hs2, Bool.not_not]; done) | rfl)))
  by_cases c2 : o.file < 0
  · rw [badO_T (fun h => by rcases h with h | h <;> omega)]
    refine Fnc.intro m_vd2_ok (by simp) fun W S => ?_
    unfold m_vd2
    simp only [ents, Nat.zero_add, Nat.reduceAdd]
    refine zst ?_
    refine ret m_vd2_ok [] ?_; exact zfn
  by_cases c3 : f.data.length ≤ o.file
  · rw [badO_T (fun h => by rcases h with h | h <;> omega)]
    refine Fnc.intro m_vd2_ok (by simp) fun W S => ?_
    unfold m_vd2
    simp only [ents, Nat.zero_add, Nat.reduceAdd]
    refine zst ?_
    refine ret m_vd2_ok [] ?_; exact zfn
  by_cases c4 : o.offset < 0
  · rw [badO_T (fun h => by rcases h with h | h <;> omega)]
    refine Fnc.intro m_vd2_ok (by simp) fun W S => ?_
    unfold m_vd2
    simp only [ents, Nat.zero_add, Nat.reduceAdd]
    refine zst ?_
    refine ret m_vd2_ok [] ?_; exact zfn
  by_cases c5 : o.offset ≤ f.data[o.file.toNat]!.length
  · rw [badO_F (.inr ⟨by omega, by omega, by omega, c5⟩)]
    refine Fnc.intro m_vd2_ok (by simp) fun W S => ?_
    unfold m_vd2
    simp only [ents, Nat.zero_add, Nat.reduceAdd]
    refine zst ?_
    refine ret m_vd2_ok [] ?_; exact zfn
  · rw [badO_T (fun h => by rcases h with h | h <;> omega)]
    refine Fnc.intro m_vd2_ok (by simp) fun W S => ?_
    unfold m_vd2
    simp only [ents, Nat.zero_add, Nat.reduceAdd]
    refine zst ?_
    refine ret m_vd2_ok [] ?_; exact zfn
set_option maxHeartbeats 4000000 in
theorem idv_fn (f : Files) (l : List Opn) (h1 : f.data.length ≤ 4): Fnc Try.prog 88 [.sl false 3 (l.map opnV), .clo 97 [.rp (filV f)]] (fun x obs => x = .int .i64 (fnd (badO f) l) ∧ obs = []) := by
  refine Fnc.wf fun hw => ?_
  have hm : l.length ≤ 140737488355328 := by
    have := hw.1
    simp only [V.wf, List.length_map] at this
    exact this.2
  clear hw
  refine Fnc.intro m_idxo_ok (by simp) fun W S => ?_
  unfold m_idxo
  simp only [ents, Nat.zero_add, Nat.reduceAdd]
  refine zst ?_
  refine ev_loopK [0, 1, 7] (fun p : {p : Nat // p ≤ l.length ∧ ∀ j, j < p → (badO f) l[j]! = false} => [(8, .int .i64 p.1)]) (fun _ => []) (fun p => l.length - p.1) (⟨0, by simp⟩) 0 (by simp only [go_sem]; rfl) ?_ (by first | rfl | (simp only [go_sem]; done)) (by simp) (by first | rfl | (simp only [go_sem]; done)) (by first | rfl | (simp only [go_sem]; done)) (by first | rfl | (simp only [go_sem]; done)) ?_
  · (simp only [go_sem]; (try simp []); done)
  intro J hJ
  rintro ⟨k, hk0, hk1⟩
  by_cases hlt : k < l.length
  · have hc := vd2_fn f l[k]! h1
    cases hb : (badO f) l[k]! with
    | true =>
      rw [hb] at hc
      have hr := fnd_at (p := (badO f)) hlt hk1 hb
      refine zst ?_
      refine callDv (hc) (by kernel_rfl) rfl ?_; simp only [go_sem]
      refine zst ?_
      refine ret m_idxo_ok [] ?_; exact zfh hr
    | false =>
      rw [hb] at hc
      have hS : ∀ j, j < k + 1 → (badO f) l[j]! = false := fun j hj => by
        by_cases e : j = k
        · subst e; exact hb
        · exact hk1 j (by omega)
      refine zst ?_
      refine callDv (hc) (by kernel_rfl) rfl ?_; simp only [go_sem]
      refine zst ?_
      refine ev_next 0 (hJ _ (⟨k + 1, hlt, hS⟩) (by first | omega | (dsimp only; omega) | (simp; omega))) rfl (by simp) ?_ (by first | rfl | (simp only [go_sem]; done)) (by first | rfl | (simp only [go_sem]; done) | (simp only [hlt]; (try simp only [go_sem]); first | done | rfl)) ?_
      · exact zna hlt
      · exact znb hlt
  · obtain rfl : k = l.length := by omega
    have hr := fnd_no (p := (badO f)) hk1
    refine zst ?_
    refine ret m_idxo_ok [] ?_; exact zfh hr
set_option maxHeartbeats 4000000 in
theorem cov_fn (f : Files) (l : List Opn) (h1 : f.data.length ≤ 4): Fnc Try.prog 96 [.sl false 3 (l.map opnV), .clo 97 [.rp (filV f)]] (fun x obs => x = .bool (l.any (badO f)) ∧ obs = []) := by
  have hr := fnd_ge (badO f) l
  refine Fnc.intro m_cono_ok (by simp) fun W S => ?_
  unfold m_cono
  simp only [ents, Nat.zero_add, Nat.reduceAdd]
  refine zst ?_
  (first | refine callD (idv_fn f l h1) ?_ | refine callDw (idv_fn f l h1) ?_); simp only [go_sem]
  refine zst ?_
  refine ret m_cono_ok [] ?_; exact zfh hr
theorem badD_no {d : List Canon} (h : badD d = false) : d.all cellB = true ∧ d.length ≤ 64 := by
  have h' : (d.all cellB && decide ((d.length : Int) ≤ 64)) = true := by
    unfold badD cellsB at h
    cases hh : (d.all cellB && decide ((d.length : Int) ≤ 64))
    · rw [hh] at h; exact absurd h (by decide)
    · rfl
  rw [Bool.and_eq_true] at h'
  exact ⟨h'.1, by have := of_decide_eq_true h'.2; omega⟩
theorem valF_iff {f : Files} (h1 : f.data.length ≤ 4) (h2 : f.opens.length = 8) : valF f = (!f.data.any badD && !f.opens.any (badO f)) := by
  by_cases F : FitF f
  · rw [valF_T F]
    have a : f.data.any badD = false := by
      rw [List.any_eq_false]
      intro x hx
      have := F.len x hx
      unfold badD cellsB
      rw [F.cell x hx, decT (by omega)]
      decide
    have b : f.opens.any (badO f) = false := by
      rw [List.any_eq_false]
      intro x hx
      rw [badO_F (F.ok x hx)]
      decide
    rw [a, b]; rfl
  · rw [valF_F F]
    cases a : f.data.any badD
    · cases b : f.opens.any (badO f)
      · rw [List.any_eq_false] at a b
        refine absurd ⟨h1, h2, fun x hx => ?_, fun x hx => ?_, fun o ho => ?_⟩ F
        · exact (badD_no (Bool.not_eq_true _ ▸ a x hx)).2
        · exact (badD_no (Bool.not_eq_true _ ▸ a x hx)).1
        · have := b o ho
          exact Classical.byContradiction fun h => this (badO_T h)
      · rfl
    · rfl
attribute [local irreducible] badD badO
set_option maxHeartbeats 8000000 in
theorem wvalf_fn (f : Files) : Fnc Try.prog 61 [filV f] (fun x obs => x = .bool (valF f) ∧ obs = []) := by
  by_cases h1 : f.data.length ≤ 4
  · by_cases h2 : f.opens.length = 8
    · rw [valF_iff h1 h2]
      have fd := cond_fn f.data
      cases a : f.data.any badD
      · rw [a] at fd
        refine Fnc.intro m_wvalf_ok (by simp) fun W S => ?_
        unfold m_wvalf
        simp only [ents, Nat.zero_add, Nat.reduceAdd]
        refine zst ?_
        (first | refine callD (fd) ?_ | refine callDw (fd) ?_); simp only [go_sem]
        refine zst ?_
        refine zst ?_
        refine evr_cloB 20 rfl rfl (by simp only [go_sem]) ?_
        (first | refine callD (cov_fn f f.opens h1) ?_ | refine callDw (cov_fn f f.opens h1) ?_); simp only [go_sem]
        refine zst ?_
        refine ret m_wvalf_ok [] ?_; exact zfn
      · rw [a] at fd
        refine Fnc.intro m_wvalf_ok (by simp) fun W S => ?_
        unfold m_wvalf
        simp only [ents, Nat.zero_add, Nat.reduceAdd]
        refine zst ?_
        (first | refine callD (fd) ?_ | refine callDw (fd) ?_); simp only [go_sem]
        refine zst ?_
        refine ret m_wvalf_ok [] ?_; exact zfn
    · rw [valF_F fun F => h2 F.o]
      refine Fnc.intro m_wvalf_ok (by simp) fun W S => ?_
      unfold m_wvalf
      simp only [ents, Nat.zero_add, Nat.reduceAdd]
      refine zst ?_
      refine ret m_wvalf_ok [] ?_; exact zfn
  · rw [valF_F fun F => h1 F.d]
    refine Fnc.intro m_wvalf_ok (by simp) fun W S => ?_
    unfold m_wvalf
    simp only [ents, Nat.zero_add, Nat.reduceAdd]
    refine zst ?_
    refine ret m_wvalf_ok [] ?_; exact zfn
end Go.Proofs.Ytkfpcgkmemfdaaa
/- Files: New by the reference, of any words. -/
namespace Go.Proofs.Ytkfpcgkmemfdaaa
open Go Go.RowKit Rdn Rdn.Dp
set_option linter.unusedVariables false
set_option linter.unusedSimpArgs false
def m_rnew : MC := .seq (.reg [⟨(some 2), none, (.m (.alloc 28 (.agg [.nilS, .nilS])))⟩, ⟨(some 3), none, (.p (.mov (.c (.int .i64 0))))⟩])
 (.seq (.reg [⟨(some 11), none, (.m (.mkS 102 3 24 (.agg [.int .i64 0, .int .i64 0, .bool false]) (.c (.int .i64 8)) (.c (.int .i64 8))))⟩, ⟨(some 12), none, (.m (.build none [.nilS, .nilS] [(1, (.t 11))]))⟩, ⟨(some 4), none, (.m (.alloc 28 (.agg [.nilS, .nilS])))⟩, ⟨none, none, (.m (.store 2 (.t 4) (.t 12)))⟩])
 (.seq (.seq (.reg [⟨(some 13), none, (.p (.fieldA 1 1 (.t 4)))⟩, ⟨(some 14), none, (.p (.load false 1 (.t 13)))⟩, ⟨(some 15), none, (.p (.len (.t 14)))⟩, ⟨(some 16), none, (.p (.mov (.c (.int .i64 0))))⟩])
 (.block 0 (.loop (.seq (.reg [⟨(some 17), none, (.p (.bin 0 .lss (.t 16) (.t 15)))⟩])
 (.seq (.cond (.t 17) (.skip) (.exit 0))
 (.seq (.block 1 (.seq (.reg [⟨(some 18), none, (.p (.mov (.t 16)))⟩, ⟨(some 5), none, (.p (.mov (.t 18)))⟩])
 (.reg [⟨(some 19), none, (.p (.fieldA 1 1 (.t 4)))⟩, ⟨(some 20), none, (.p (.load false 1 (.t 19)))⟩, ⟨(some 21), none, (.p (.mov (.t 5)))⟩, ⟨(some 22), none, (.p (.idxA 3 (.t 20) (.t 21)))⟩, ⟨(some 23), none, (.p (.fieldA 0 0 (.t 22)))⟩, ⟨none, none, (.m (.store 1 (.t 23) (.c (.int .i64 (-1)))))⟩])))
 (.reg [⟨(some 24), none, (.p (.bin 0 .add (.t 16) (.c (.int .i64 1))))⟩, ⟨(some 16), none, (.p (.mov (.t 24)))⟩])))))))
 (.seq (.seq (.reg [⟨(some 25), none, (.p (.mov (.t 0)))⟩, ⟨(some 26), none, (.p (.len (.t 25)))⟩, ⟨(some 27), none, (.p (.mov (.c (.int .i64 0))))⟩])
 (.block 2 (.loop (.seq (.reg [⟨(some 28), none, (.p (.bin 0 .lss (.t 27) (.t 26)))⟩])
 (.seq (.cond (.t 28) (.skip) (.exit 2))
 (.seq (.block 3 (.seq (.reg [⟨(some 29), none, (.p (.idxA 1 (.t 25) (.t 27)))⟩, ⟨(some 30), none, (.p (.load false 1 (.t 29)))⟩, ⟨(some 7), none, (.p (.mov (.t 30)))⟩])
 (.seq (.reg [⟨(some 8), none, (.p (.mov (.c (.nilS))))⟩])
 (.seq (.seq (.reg [⟨(some 31), none, (.p (.mov (.t 7)))⟩, ⟨(some 32), none, (.p (.len (.t 31)))⟩, ⟨(some 33), none, (.p (.mov (.c (.int .i64 0))))⟩])
 (.block 4 (.loop (.seq (.reg [⟨(some 34), none, (.p (.bin 0 .lss (.t 33) (.t 32)))⟩])
 (.seq (.cond (.t 34) (.skip) (.exit 4))
 (.seq (.block 5 (.seq (.reg [⟨(some 35), none, (.p (.idxA 1 (.t 31) (.t 33)))⟩, ⟨(some 36), none, (.p (.load false 1 (.t 35)))⟩, ⟨(some 10), none, (.p (.mov (.t 36)))⟩])
 (.reg [⟨(some 37), none, (.p (.mov (.t 8)))⟩, ⟨(some 38), none, (.p (.mov (.t 10)))⟩, ⟨(some 39), none, (.m (.build none [.int .u8 0, .int .u16 0, .int .i64 0, .int .i64 0] [(1, (.t 38))]))⟩, ⟨(some 40), none, (.m (.buildS 47 4 (.agg [.int .u8 0, .int .u16 0, .int .i64 0, .int .i64 0]) 1 [(0, (.t 39))]))⟩, ⟨(some 41), none, (.m (.app 47 4 24 (.t 37) (.t 40)))⟩, ⟨(some 8), none, (.p (.mov (.t 41)))⟩])))
 (.reg [⟨(some 42), none, (.p (.bin 0 .add (.t 33) (.c (.int .i64 1))))⟩, ⟨(some 33), none, (.p (.mov (.t 42)))⟩])))))))
 (.reg [⟨(some 43), none, (.p (.fieldA 0 0 (.t 4)))⟩, ⟨(some 44), none, (.p (.load false 1 (.t 43)))⟩, ⟨(some 45), none, (.p (.mov (.t 8)))⟩, ⟨(some 46), none, (.m (.buildS 41 1 (.nilS) 1 [(0, (.t 45))]))⟩, ⟨(some 47), none, (.m (.app 41 1 24 (.t 44) (.t 46)))⟩, ⟨(some 48), none, (.p (.fieldA 0 0 (.t 4)))⟩, ⟨none, none, (.m (.store 1 (.t 48) (.t 47)))⟩])))))
 (.reg [⟨(some 49), none, (.p (.bin 0 .add (.t 27) (.c (.int .i64 1))))⟩, ⟨(some 27), none, (.p (.mov (.t 49)))⟩])))))))
 (.seq (.seq (.reg [⟨(some 50), none, (.p (.load true 2 (.t 4)))⟩, ⟨(some 51), none, (.call 49 [(.t 50)])⟩, ⟨(some 52), none, (.p (.un .not (.t 51)))⟩])
 (.cond (.t 52) (.seq (.reg [⟨(some 53), none, (.m (.build none [.nilS, .nilS] []))⟩, ⟨none, none, (.m (.store 2 (.t 2) (.t 53)))⟩, ⟨(some 3), none, (.p (.mov (.c (.int .i64 3))))⟩])
 (.ret)) (.skip)))
 (.seq (.reg [⟨(some 54), none, (.p (.load true 2 (.t 4)))⟩, ⟨none, none, (.m (.store 2 (.t 2) (.t 54)))⟩, ⟨(some 3), none, (.p (.mov (.c (.int .i64 0))))⟩])
 (.ret))))))
theorem m_rnew_ok : compF Try.prog 26 = some (55, m_rnew, [.load true 2 (.t 2), .mov (.t 3)]) := by kernel_rfl
theorem new_fit {data : List (List Int)} (h : okNew data) : FitF ⟨data.map numC, eight⟩ := by
  have h' : data.length ≤ 4 ∧ ∀ x ∈ data, x.length ≤ 64 := by
    rcases h with rfl | h
    · exact ⟨by simp, by simp⟩
    · exact h
  refine ⟨by simpa using h'.1, rfl, fun x hx => ?_, fun x hx => ?_, fun o ho => ?_⟩
  · obtain ⟨w, hw, rfl⟩ := List.mem_map.1 hx
    rw [numC_len]; exact h'.2 w hw
  · obtain ⟨w, hw, rfl⟩ := List.mem_map.1 hx
    exact numC_cell w
  · simp [eight] at ho; subst ho; exact .inl ⟨rfl, rfl, rfl⟩
theorem new_unfit {data : List (List Int)} (h : ¬ okNew data) : ¬ FitF ⟨data.map numC, eight⟩ := fun F => h (.inr ⟨by simpa using F.d, fun x hx => by have := F.len (numC x) (List.mem_map.2 ⟨x, hx, rfl⟩); rwa [numC_len] at this⟩)
attribute [local irreducible] eight numC sNew
set_option maxHeartbeats 16000000 in
theorem rnew_fn (data : List (List Int)) (hd : data.length ≤ 1000) (hx : ∀ x ∈ data, x.length ≤ 1000000) : Fnc Try.prog 26 [.sl false 1 (data.map (slV' false 1 (V.int .u16)))] (fun x obs => x = .tup [filV (sNew data).1, .int .i64 (sNew data).2] ∧ obs = []) := by
  refine Fnc.low ?_
  have h8 := eight_V
  have fv := rvalf_fn ⟨data.map numC, eight⟩
  refine Fnc.intro m_rnew_ok (by simp) fun W S => ?_
  unfold m_rnew
  simp only [ents, Nat.zero_add, Nat.reduceAdd]
  refine zst ?_
  refine ev_unroll 9 ?_
  refine zst ?_
  refine ev_adoptB 2 0 41 1 rfl rfl (by decide) rfl ?_
  refine ev_loopK [2, 4, 25, 26] (fun p : {p : Nat // p ≤ data.length} => [(27, .int .i64 p.1)]) (fun p => [⟨.box false 28, true, 0, .agg [.nilS, .nilS]⟩, ⟨.row 102, true, 0, .arr 3 (eight.map opnV)⟩, ⟨.box false 28, true, 0, .agg [.own 3 p.1, .own 1 0]⟩, ⟨.row 41, true, p.1, .arr 1 (((data.take p.1).map numC).map (slV' true 4 canonV))⟩]) (fun p => data.length - p.1) (⟨0, by simp⟩) 4 (by simp only [go_sem]; rfl) ?_ (by first | rfl | (simp only [go_sem]; done) | (simp only [go_sem]; simp [h8]; done)) (by simp) (by first | rfl | (simp only [go_sem]; done)) (by first | rfl | (simp only [go_sem]; done)) (by first | rfl | (simp only [go_sem]; done) | (simp only [h8]; (try simp only [go_sem]); first | done | rfl)) ?_
  · (simp only [go_sem]; (try simp [h8]); done)
  intro J hJ
  rintro ⟨k, hk0⟩
  by_cases hlt : k < data.length
  · have h3 := hx _ (mem_at hlt)
    have h2 : ((data.take k).map numC).length = k := by rw [List.length_map, List.length_take]; omega
    have hs : ((data.take k).map numC) ++ [numC data[k]!] = (data.take (k + 1)).map numC := by rw [take_snoc hlt, List.map_append]; rfl
    refine zst ?_
    have hJ0 := hJ
    refine ev_adopt (i := 8) (e := 47) (s := 4) rfl (by decide) ?_
    refine ev_loopK [2, 4, 25, 26, 27, 31, 32] (fun p : {p : Nat // p ≤ data[k]!.length} => [(8, .own 4 p.1), (33, .int .i64 p.1)]) (fun p => [⟨.box false 28, true, 0, .agg [.nilS, .nilS]⟩, ⟨.row 102, true, 0, .arr 3 (eight.map opnV)⟩, ⟨.box false 28, true, 0, .agg [.own 3 k, .own 1 0]⟩, ⟨.row 41, true, k, .arr 1 (((data.take k).map numC).map (slV' true 4 canonV))⟩, ⟨.row 47, true, p.1, .arr 4 ((numC (data[k]!.take p.1)).map canonV)⟩]) (fun p => data[k]!.length - p.1) (⟨0, by simp⟩) 5 (by simp only [go_sem]; rfl) ?_ (by first | rfl | (simp only [go_sem]; done) | (simp only [go_sem]; simp [numC_zero]; done)) (by simp) (by first | rfl | (simp only [go_sem]; done)) (by first | rfl | (simp only [go_sem]; done)) (by first | rfl | (simp only [go_sem]; done) | (simp only [numC_zero]; (try simp only [go_sem]); first | done | rfl)) ?_
    · (simp only [go_sem]; (try simp [numC_zero]); done)
    intro J hJ
    rintro ⟨i, hi0⟩
    by_cases hl2 : i < data[k]!.length
    · have q1 := numC_len (data[k]!.take i)
      have q2 : (data[k]!.take i).length = i := by rw [List.length_take]; omega
      have q3 := numC_snoc hl2
      refine zst ?_
      refine ev_next 5 (hJ _ (⟨i + 1, hl2⟩) (by first | omega | (dsimp only; omega) | (simp; omega))) rfl (by simp) ?_ (by first | rfl | (simp only [go_sem]; done)) (by first | rfl | (simp only [go_sem]; done) | (simp only [q3]; (try simp only [go_sem]); first | done | rfl)) ?_
      · exact zna q3
      · exact znb q3
    · obtain rfl : i = data[k]!.length := by omega
      have hJ := hJ0
      refine ev_freeze 8 rfl rfl ?_
      have hT : data[k]!.take data[k]!.length = data[k]! := List.take_length
      refine zsx hT ?_
      refine ev_next 4 (hJ _ (⟨k + 1, hlt⟩) (by first | omega | (dsimp only; omega) | (simp; omega))) rfl (by simp) ?_ (by first | rfl | (simp only [go_sem]; done)) (by first | rfl | (simp only [go_sem]; done) | (simp only [hs]; (try simp only [go_sem]); first | done | rfl)) ?_
      · exact zna hs
      · exact znb hs
  · obtain rfl : k = data.length := by omega
    have hT : data.take data.length = data := List.take_length
    by_cases c : okNew data
    · rw [valF_T (new_fit c)] at fv
      rw [sNew_T c]
      refine zsx hT ?_
      refine evr_calmA ?_; (refine zev ?_); (first | refine callD (fv) ?_ | refine callDw (fv) ?_); simp only [go_sem]
      refine zst ?_
      refine ret m_rnew_ok [] ?_; exact zfn
    · rw [valF_F (new_unfit c)] at fv
      rw [sNew_F c]
      refine zsx hT ?_
      refine evr_calmA ?_; (refine zev ?_); (first | refine callD (fv) ?_ | refine callDw (fv) ?_); simp only [go_sem]
      refine zst ?_
      refine ev_obSub 0 (.agg [.sl false 1 [], .sl false 3 []]) rfl (SubV.agg ⟨SubV.nil _ _, SubV.nil _ _, trivial⟩) rfl ?_
      refine ret m_rnew_ok [] ?_; exact zfn
end Go.Proofs.Ytkfpcgkmemfdaaa
