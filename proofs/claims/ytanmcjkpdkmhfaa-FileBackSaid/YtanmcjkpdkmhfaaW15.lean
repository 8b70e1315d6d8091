/- Files: what was written is read (FileBack). -/
import Derived.Test.YtanmcjkpdkmhfaaW11
import Derived.Test.YtanmcjkpdkmhfaaZt
import Derived.Test.YtanmcjkpdkmhfaaWX
namespace Go.Proofs.Ytanmcjkpdkmhfaa
open Go Go.RowKit Rdn Rdn.Dp
set_option linter.unusedVariables false
set_option linter.unusedSimpArgs false
def m_fba : MC := .seq (.reg [⟨(some 6), none, (.p (.mov (.c (.bool false))))⟩])
 (.seq (.reg [⟨(some 26), none, (.p (.mov (.t 0)))⟩, ⟨(some 27), none, (.call 9 [(.t 26)])⟩, ⟨(some 7), none, (.p (.mov (.t 27)))⟩])
 (.seq (.reg [⟨(some 28), none, (.p (.mov (.t 7)))⟩, ⟨(some 29), none, (.call 8 [(.t 28)])⟩, ⟨(some 8), none, (.m (.alloc 26 (.agg [.nilS, .nilS])))⟩, ⟨none, none, (.m (.store 2 (.t 8) (.t 29)))⟩])
 (.seq (.reg [⟨(some 30), none, (.p (.mov (.t 1)))⟩, ⟨(some 31), none, (.p (.fieldA 0 0 (.t 8)))⟩, ⟨(some 32), none, (.p (.load false 1 (.t 31)))⟩, ⟨(some 33), none, (.p (.len (.t 32)))⟩, ⟨(some 34), none, (.call 10 [(.t 30), (.t 33)])⟩, ⟨(some 9), none, (.p (.mov (.t 34)))⟩])
 (.seq (.reg [⟨(some 35), none, (.p (.mov (.t 7)))⟩, ⟨(some 36), none, (.call 18 [(.t 35), (.c (.int .i64 9))])⟩, ⟨(some 10), none, (.p (.mov (.t 36)))⟩])
 (.seq (.reg [⟨(some 38), none, (.p (.load true 2 (.t 8)))⟩, ⟨(some 39), none, (.p (.mov (.t 9)))⟩, ⟨(some 40), none, (.call 11 [(.t 38), (.t 39), (.c (.int .i64 2))])⟩, ⟨(some 37), none, (.p (.mov (.t 40)))⟩, ⟨(some 41), none, (.p (.ext (.t 37) 0))⟩, ⟨(some 42), none, (.p (.ext (.t 37) 1))⟩, ⟨(some 11), none, (.m (.alloc 26 (.agg [.nilS, .nilS])))⟩, ⟨none, none, (.m (.store 2 (.t 11) (.t 41)))⟩, ⟨(some 12), none, (.p (.mov (.t 42)))⟩])
 (.seq (.seq (.reg [⟨(some 43), none, (.p (.mov (.t 12)))⟩, ⟨(some 44), none, (.p (.bin 0 .lss (.t 43) (.c (.int .i64 0))))⟩])
 (.cond (.t 44) (.seq (.reg [⟨(some 45), none, (.p (.fieldA 0 0 (.t 8)))⟩, ⟨(some 46), none, (.p (.load false 1 (.t 45)))⟩, ⟨(some 47), none, (.p (.len (.t 46)))⟩, ⟨(some 48), none, (.p (.bin 0 .gtr (.t 47) (.c (.int .i64 0))))⟩, ⟨(some 49), none, (.p (.mov (.t 48)))⟩, ⟨(some 50), (some (49, true)), (.call 13 [])⟩, ⟨(some 51), none, (.p (.pick (.t 49) (.t 50) (.c (.bool false))))⟩, ⟨(some 6), none, (.p (.mov (.t 51)))⟩])
 (.ret)) (.skip)))
 (.seq (.seq (.reg [⟨(some 52), none, (.p (.fieldA 0 0 (.t 11)))⟩, ⟨(some 53), none, (.p (.load false 1 (.t 52)))⟩, ⟨(some 54), none, (.p (.len (.t 53)))⟩, ⟨(some 55), none, (.p (.fieldA 0 0 (.t 8)))⟩, ⟨(some 56), none, (.p (.load false 1 (.t 55)))⟩, ⟨(some 57), none, (.p (.len (.t 56)))⟩, ⟨(some 58), none, (.p (.bin 0 .neq (.t 54) (.t 57)))⟩, ⟨(some 59), none, (.p (.mov (.t 58)))⟩, ⟨(some 60), (some (59, false)), (.p (.fieldA 1 1 (.t 11)))⟩, ⟨(some 61), (some (59, false)), (.p (.load false 1 (.t 60)))⟩, ⟨(some 62), (some (59, false)), (.p (.len (.t 61)))⟩, ⟨(some 63), (some (59, false)), (.p (.bin 0 .neq (.t 62) (.c (.int .i64 8))))⟩, ⟨(some 64), none, (.p (.pick (.t 59) (.c (.bool true)) (.t 63)))⟩])
 (.cond (.t 64) (.seq (.reg [⟨(some 6), none, (.p (.mov (.c (.bool false))))⟩])
 (.ret)) (.skip)))
 (.seq (.reg [⟨(some 65), none, (.p (.mov (.t 2)))⟩, ⟨(some 66), none, (.p (.fieldA 0 0 (.t 8)))⟩, ⟨(some 67), none, (.p (.load false 1 (.t 66)))⟩, ⟨(some 68), none, (.p (.mov (.t 9)))⟩, ⟨(some 69), none, (.p (.idxA 1 (.t 67) (.t 68)))⟩, ⟨(some 70), none, (.p (.load false 1 (.t 69)))⟩, ⟨(some 71), none, (.p (.len (.t 70)))⟩, ⟨(some 72), none, (.p (.bin 0 .add (.t 71) (.c (.int .i64 1))))⟩, ⟨(some 73), none, (.call 10 [(.t 65), (.t 72)])⟩, ⟨(some 13), none, (.p (.mov (.t 73)))⟩])
 (.seq (.reg [⟨(some 75), none, (.p (.load true 2 (.t 11)))⟩, ⟨(some 76), none, (.p (.mov (.t 12)))⟩, ⟨(some 77), none, (.p (.mov (.t 13)))⟩, ⟨(some 78), none, (.call 19 [(.t 75), (.t 76), (.t 77)])⟩, ⟨(some 74), none, (.p (.mov (.t 78)))⟩, ⟨(some 79), none, (.p (.ext (.t 74) 0))⟩, ⟨(some 80), none, (.p (.ext (.t 74) 1))⟩, ⟨none, none, (.m (.store 2 (.t 11) (.t 79)))⟩, ⟨(some 14), none, (.p (.mov (.t 80)))⟩])
 (.seq (.reg [⟨(some 82), none, (.p (.load true 2 (.t 11)))⟩, ⟨(some 83), none, (.p (.mov (.t 12)))⟩, ⟨(some 84), none, (.p (.mov (.t 10)))⟩, ⟨(some 85), none, (.call 20 [(.t 82), (.t 83), (.t 84)])⟩, ⟨(some 81), none, (.p (.mov (.t 85)))⟩, ⟨(some 86), none, (.p (.ext (.t 81) 0))⟩, ⟨(some 87), none, (.p (.ext (.t 81) 1))⟩, ⟨(some 88), none, (.p (.ext (.t 81) 2))⟩, ⟨(some 15), none, (.m (.alloc 26 (.agg [.nilS, .nilS])))⟩, ⟨none, none, (.m (.store 2 (.t 15) (.t 86)))⟩, ⟨(some 16), none, (.p (.mov (.t 87)))⟩, ⟨(some 17), none, (.p (.mov (.t 88)))⟩])
 (.seq (.reg [⟨(some 90), none, (.p (.load true 2 (.t 15)))⟩, ⟨(some 91), none, (.p (.mov (.t 9)))⟩, ⟨(some 92), none, (.call 11 [(.t 90), (.t 91), (.c (.int .i64 0))])⟩, ⟨(some 89), none, (.p (.mov (.t 92)))⟩, ⟨(some 93), none, (.p (.ext (.t 89) 0))⟩, ⟨(some 94), none, (.p (.ext (.t 89) 1))⟩, ⟨(some 18), none, (.m (.alloc 26 (.agg [.nilS, .nilS])))⟩, ⟨none, none, (.m (.store 2 (.t 18) (.t 93)))⟩, ⟨(some 19), none, (.p (.mov (.t 94)))⟩])
 (.seq (.seq (.reg [⟨(some 95), none, (.p (.mov (.t 14)))⟩, ⟨(some 96), none, (.p (.un .not (.t 95)))⟩, ⟨(some 97), none, (.p (.mov (.t 96)))⟩, ⟨(some 98), (some (97, false)), (.p (.mov (.t 17)))⟩, ⟨(some 99), (some (97, false)), (.p (.un .not (.t 98)))⟩, ⟨(some 100), none, (.p (.pick (.t 97) (.c (.bool true)) (.t 99)))⟩, ⟨(some 101), none, (.p (.mov (.t 100)))⟩, ⟨(some 102), (some (101, false)), (.p (.mov (.t 16)))⟩, ⟨(some 103), (some (101, false)), (.p (.mov (.t 10)))⟩, ⟨(some 104), (some (101, false)), (.p (.len (.t 103)))⟩, ⟨(some 105), (some (101, false)), (.p (.bin 0 .gtr (.t 102) (.t 104)))⟩, ⟨(some 106), none, (.p (.pick (.t 101) (.c (.bool true)) (.t 105)))⟩, ⟨(some 107), none, (.p (.mov (.t 106)))⟩, ⟨(some 108), (some (107, false)), (.p (.load true 2 (.t 15)))⟩, ⟨(some 109), (some (107, false)), (.call 16 [(.t 108)])⟩, ⟨(some 110), (some (107, false)), (.p (.un .not (.t 109)))⟩, ⟨(some 111), none, (.p (.pick (.t 107) (.c (.bool true)) (.t 110)))⟩])
 (.cond (.t 111) (.seq (.reg [⟨(some 6), none, (.p (.mov (.c (.bool false))))⟩])
 (.ret)) (.skip)))
 (.seq (.seq (.reg [⟨(some 112), none, (.p (.fieldA 0 0 (.t 15)))⟩, ⟨(some 113), none, (.p (.load false 1 (.t 112)))⟩, ⟨(some 114), none, (.p (.len (.t 113)))⟩, ⟨(some 115), none, (.p (.mov (.c (.int .i64 0))))⟩])
 (.block 0 (.loop (.seq (.reg [⟨(some 116), none, (.p (.bin 0 .lss (.t 115) (.t 114)))⟩])
 (.seq (.cond (.t 116) (.skip) (.exit 0))
 (.seq (.block 1 (.seq (.reg [⟨(some 117), none, (.p (.mov (.t 115)))⟩, ⟨(some 118), none, (.p (.idxA 1 (.t 113) (.t 115)))⟩, ⟨(some 119), none, (.p (.load false 1 (.t 118)))⟩, ⟨(some 20), none, (.p (.mov (.t 117)))⟩, ⟨(some 21), none, (.p (.mov (.t 119)))⟩])
 (.seq (.reg [⟨(some 120), none, (.p (.mov (.t 20)))⟩, ⟨(some 121), none, (.p (.mov (.t 9)))⟩, ⟨(some 122), none, (.p (.bin 0 .neq (.t 120) (.t 121)))⟩, ⟨(some 123), none, (.p (.mov (.t 122)))⟩, ⟨(some 124), (some (123, true)), (.p (.mov (.t 21)))⟩, ⟨(some 125), (some (123, true)), (.p (.fieldA 0 0 (.t 8)))⟩, ⟨(some 126), (some (123, true)), (.p (.load false 1 (.t 125)))⟩, ⟨(some 127), (some (123, true)), (.p (.mov (.t 20)))⟩, ⟨(some 128), (some (123, true)), (.p (.idxA 1 (.t 126) (.t 127)))⟩, ⟨(some 129), (some (123, true)), (.p (.load false 1 (.t 128)))⟩, ⟨(some 130), (some (123, true)), (.call 12 [(.t 124), (.t 129)])⟩, ⟨(some 131), (some (123, true)), (.p (.un .not (.t 130)))⟩, ⟨(some 132), none, (.p (.pick (.t 123) (.t 131) (.c (.bool false))))⟩])
 (.cond (.t 132) (.seq (.reg [⟨(some 6), none, (.p (.mov (.c (.bool false))))⟩])
 (.ret)) (.skip)))))
 (.reg [⟨(some 133), none, (.p (.bin 0 .add (.t 115) (.c (.int .i64 1))))⟩, ⟨(some 115), none, (.p (.mov (.t 133)))⟩])))))))
 (.seq (.seq (.reg [⟨(some 134), none, (.p (.mov (.t 19)))⟩, ⟨(some 135), none, (.p (.bin 0 .lss (.t 134) (.c (.int .i64 0))))⟩])
 (.cond (.t 135) (.seq (.reg [⟨(some 136), none, (.call 13 [])⟩, ⟨(some 6), none, (.p (.mov (.t 136)))⟩])
 (.ret)) (.skip)))
 (.seq (.reg [⟨(some 138), none, (.p (.load true 2 (.t 18)))⟩, ⟨(some 139), none, (.p (.mov (.t 19)))⟩, ⟨(some 140), none, (.p (.mov (.t 13)))⟩, ⟨(some 141), none, (.call 19 [(.t 138), (.t 139), (.t 140)])⟩, ⟨(some 137), none, (.p (.mov (.t 141)))⟩, ⟨(some 142), none, (.p (.ext (.t 137) 0))⟩, ⟨(some 143), none, (.p (.ext (.t 137) 1))⟩, ⟨none, none, (.m (.store 2 (.t 18) (.t 142)))⟩, ⟨(some 22), none, (.p (.mov (.t 143)))⟩])
 (.seq (.reg [⟨(some 145), none, (.p (.load true 2 (.t 18)))⟩, ⟨(some 146), none, (.p (.mov (.t 19)))⟩, ⟨(some 147), none, (.p (.mov (.t 16)))⟩, ⟨(some 148), none, (.call 14 [(.t 145), (.t 146), (.t 147)])⟩, ⟨(some 144), none, (.p (.mov (.t 148)))⟩, ⟨(some 149), none, (.p (.ext (.t 144) 0))⟩, ⟨(some 150), none, (.p (.ext (.t 144) 1))⟩, ⟨(some 151), none, (.p (.ext (.t 144) 2))⟩, ⟨(some 23), none, (.m (.alloc 26 (.agg [.nilS, .nilS])))⟩, ⟨none, none, (.m (.store 2 (.t 23) (.t 149)))⟩, ⟨(some 24), none, (.p (.mov (.t 150)))⟩, ⟨(some 25), none, (.p (.mov (.t 151)))⟩])
 (.seq (.reg [⟨(some 152), none, (.p (.mov (.t 22)))⟩, ⟨(some 153), none, (.p (.mov (.t 152)))⟩, ⟨(some 154), (some (153, true)), (.p (.mov (.t 25)))⟩, ⟨(some 155), none, (.p (.pick (.t 153) (.t 154) (.c (.bool false))))⟩, ⟨(some 156), none, (.p (.mov (.t 155)))⟩, ⟨(some 157), (some (156, true)), (.p (.mov (.t 24)))⟩, ⟨(some 158), (some (156, true)), (.p (.mov (.t 10)))⟩, ⟨(some 159), (some (156, true)), (.p (.mov (.t 16)))⟩, ⟨(some 160), (some (156, true)), (.m (.sl 4 (.t 158) none (some (.t 159)) none))⟩, ⟨(some 161), (some (156, true)), (.call 12 [(.t 157), (.t 160)])⟩, ⟨(some 162), none, (.p (.pick (.t 156) (.t 161) (.c (.bool false))))⟩, ⟨(some 163), none, (.p (.mov (.t 162)))⟩, ⟨(some 164), (some (163, true)), (.p (.mov (.t 16)))⟩, ⟨(some 165), (some (163, true)), (.p (.mov (.t 10)))⟩, ⟨(some 166), (some (163, true)), (.p (.len (.t 165)))⟩, ⟨(some 167), (some (163, true)), (.p (.bin 0 .eql (.t 164) (.t 166)))⟩, ⟨(some 168), (some (163, true)), (.p (.mov (.t 167)))⟩, ⟨(some 169), (some (168, false)), (.p (.mov (.t 13)))⟩, ⟨(some 170), (some (168, false)), (.p (.mov (.t 16)))⟩, ⟨(some 171), (some (168, false)), (.p (.bin 0 .add (.t 169) (.t 170)))⟩, ⟨(some 172), (some (168, false)), (.p (.bin 0 .eql (.t 171) (.c (.int .i64 64))))⟩, ⟨(some 173), (some (163, true)), (.p (.pick (.t 168) (.c (.bool true)) (.t 172)))⟩, ⟨(some 174), none, (.p (.pick (.t 163) (.t 173) (.c (.bool false))))⟩, ⟨(some 175), none, (.p (.mov (.t 174)))⟩, ⟨(some 176), (some (175, true)), (.call 13 [])⟩, ⟨(some 177), none, (.p (.pick (.t 175) (.t 176) (.c (.bool false))))⟩, ⟨(some 6), none, (.p (.mov (.t 177)))⟩])
 (.ret))))))))))))))))))
theorem m_fba_ok : compF Try.prog 6 = some (178, m_fba, [.mov (.t 6)]) := by kernel_rfl
theorem dc1_cell (l : List Int) (k : Nat) : cellB (dc1 l k).1 = true := by
  have h0 := dnx_ge (l := l) (k := dkx l k) (n := 12) (by omega)
  have h1 := dnx_lt (l := l) (k := dkx l k) (n := 12) (by omega)
  have h2 := dnx_ge (l := l) (k := dkx l (dcn l k).2) (n := 65536) (by omega)
  have h3 := dnx_lt (l := l) (k := dkx l (dcn l k).2) (n := 65536) (by omega)
  unfold dc1
  split
  · exact decT (.inr ⟨rfl, rfl, .inl ⟨rfl, h2, by dsimp only; omega⟩⟩)
  · unfold dcn
    split
    · refine decT (.inr ⟨rfl, rfl, .inr ?_⟩)
      dsimp only
      unfold at84
      split
      · dsimp only; omega
      · dsimp only; omega
    split
    · exact decT (.inl ⟨.inr rfl, rfl, rfl⟩)
    · exact decT (.inl ⟨.inl rfl, rfl, rfl⟩)
theorem dcs_cells (l : List Int) (k : Nat) (n : Int) : (dcs l k n).1.all cellB = true := by
  rw [List.all_eq_true]
  exact drw_all (f := dc1 l) (p := fun c => cellB c = true) (dc1_cell l) _ _
/-- What is read again. -/
structure Again (b : Files) (K : Nat) (at' n : Int) (g : List Canon) : Prop where
  h : (sOpen b K 0).2 < 0 ∨ ∃ x x' y r, sOpen b K 0 = (x, r) ∧ 0 ≤ r ∧ FitF x ∧ sSeek x r at' = (x', true) ∧ FitF x' ∧ sRead x' r n = (y, g, true)
structure Back (f : Files) (K : Nat) (at' : Int) (c : List Canon) (H : Int) (a a' b : Files) (n : Int) : Prop where
  h1 : sOpen f K 2 = (a, H)
  h2 : sSeek a H at' = (a', true)
  h3 : sWrite a' H c = (b, n, true)
  dl : a.data.length = f.data.length
  ol : a.opens.length = 8
  nn : n = min (c.length : Int) (64 - at')
  bl : b.data.length = f.data.length
  bd : ∀ i : Nat, i < f.data.length → i ≠ K → b.data[i]! = f.data[i]!
  ag : Again b K at' n (c.take n.toNat)
theorem back {f : Files} (F : FitF f) {K : Nat} (hK : K < f.data.length) {at' : Int} (a0 : 0 ≤ at') (a1 : at' ≤ f.data[K]!.length) {c : List Canon} (hc : c.all cellB = true) (ho : 0 ≤ (sOpen f K 2).2) : ∃ a a' b n, Back f K at' c (sOpen f K 2).2 a a' b n := by
  have hO := F.o
  have hd4 := F.len _ (mem_at hK)
  by_cases cc : ((K : Int) < 0 ∨ (f.data.length : Int) ≤ K ∨ hdl f = f.opens.length)
  · rw [sOpen_F (by omega)] at ho; exact absurd ho (fun h => by simp only at h; omega)
  have hlt : hdl f < 8 := by have := hdl_le f; omega
  have e1 := sOpen_2 cc
  have Fa := F.open K 2
  rw [e1] at Fa
  rw [e1]
  dsimp only
  rw [Int.toNat_natCast] at e1 Fa
  generalize ha : (⟨f.data, f.opens.set (hdl f) ⟨K, f.data[K]!.length, true⟩⟩ : Files) = a at e1 Fa ⊢
  have ao : a.opens[(hdl f : Int).toNat]! = ⟨K, f.data[K]!.length, true⟩ := by rw [Int.toNat_natCast, ← ha]; dsimp only; rw [set_at (by omega), if_pos rfl]
  have ad : a.data = f.data := by rw [← ha]
  have al : a.opens.length = 8 := by rw [← ha]; simp [hO]
  have op : opd a (hdl f : Int) := ⟨by omega, by omega, by rw [ao]; dsimp only; omega⟩
  have hda : dat a (hdl f : Int) = f.data[K]! := by unfold dat; rw [ao, ad]; dsimp only; rw [Int.toNat_natCast]
  have e2 : sSeek a (hdl f : Int) at' = (⟨a.data, setOff a (hdl f : Int) at'⟩, true) := by unfold sSeek; rw [if_pos ⟨op, a0, by rw [hda]; exact a1⟩]
  have Fa' := Fa.seek (hdl f : Int) at'
  rw [e2] at Fa'
  dsimp only at Fa'
  have ao' : (⟨a.data, setOff a (hdl f : Int) at'⟩ : Files).opens[(hdl f : Int).toNat]! = ⟨K, at', true⟩ := by show (setOff a (hdl f : Int) at')[(hdl f : Int).toNat]! = _; rw [setOff_at op, ao]
  have op' : opd ⟨a.data, setOff a (hdl f : Int) at'⟩ (hdl f : Int) := setOff_opd op
  have hda' : dat ⟨a.data, setOff a (hdl f : Int) at'⟩ (hdl f : Int) = f.data[K]! := by rw [setOff_dat op, hda]
  have ad' : (⟨a.data, setOff a (hdl f : Int) at'⟩ : Files).data = f.data := ad
  generalize ha' : (⟨a.data, setOff a (hdl f : Int) at'⟩ : Files) = a' at *
  have hn : wrn a' (hdl f : Int) c = min (c.length : Int) (64 - at') := by unfold wrn; rw [ao']
  have e3 : sWrite a' (hdl f : Int) c = (⟨a'.data.set K (over f.data[K]! at'.toNat (c.take (wrn a' (hdl f : Int) c).toNat)), setOff a' (hdl f : Int) (at' + wrn a' (hdl f : Int) c)⟩, wrn a' (hdl f : Int) c, true) := by
    unfold sWrite
    rw [if_pos ⟨op', by rw [ao'], hc⟩, ao', hda']
    dsimp only
    rw [Int.toNat_natCast]
  have Fb := Fa'.write (hdl f : Int) c
  rw [e3] at Fb
  dsimp only at Fb
  have bd : (⟨a'.data.set K (over f.data[K]! at'.toNat (c.take (wrn a' (hdl f : Int) c).toNat)), setOff a' (hdl f : Int) (at' + wrn a' (hdl f : Int) c)⟩ : Files).data = f.data.set K (over f.data[K]! at'.toNat (c.take (wrn a' (hdl f : Int) c).toNat)) := by rw [← ad']
  generalize (⟨a'.data.set K (over f.data[K]! at'.toNat (c.take (wrn a' (hdl f : Int) c).toNat)), setOff a' (hdl f : Int) (at' + wrn a' (hdl f : Int) c)⟩ : Files) = b at e3 Fb bd
  rw [hn] at e3 bd
  generalize hN : min (c.length : Int) (64 - at') = n at e3 bd
  have hw : (c.take n.toNat).length = n.toNat := by rw [List.length_take]; omega
  refine ⟨a, a', b, n, e1, e2, e3, by rw [ad], al, hN.symm, by rw [bd]; simp, fun i hi hne => by rw [bd, set_at hi, if_neg (by omega)], ⟨?_⟩⟩
  by_cases cb : ((K : Int) < 0 ∨ (b.data.length : Int) ≤ K ∨ hdl b = b.opens.length)
  · exact .inl (by rw [sOpen_F (by omega)]; show (-1 : Int) < 0; omega)
  refine .inr ?_
  have bO := Fb.o
  have hltb : hdl b < 8 := by have := hdl_le b; omega
  have x1 := sOpen_0 cb
  have Fx := Fb.open K 0
  rw [x1] at Fx
  dsimp only at Fx
  have xo : (⟨b.data, b.opens.set (hdl b) ⟨K, 0, false⟩⟩ : Files).opens[(hdl b : Int).toNat]! = ⟨K, 0, false⟩ := by rw [Int.toNat_natCast]; dsimp only; rw [set_at (by omega), if_pos rfl]
  have xl : (⟨b.data, b.opens.set (hdl b) ⟨K, 0, false⟩⟩ : Files).opens.length = 8 := by simp [bO]
  have xd : (⟨b.data, b.opens.set (hdl b) ⟨K, 0, false⟩⟩ : Files).data = b.data := rfl
  generalize (⟨b.data, b.opens.set (hdl b) ⟨K, 0, false⟩⟩ : Files) = x at x1 Fx xo xl xd
  have opx : opd x (hdl b : Int) := ⟨by omega, by omega, by rw [xo]; dsimp only; omega⟩
  have hdx : dat x (hdl b : Int) = over f.data[K]! at'.toNat (c.take n.toNat) := by unfold dat; rw [xo, xd, bd]; dsimp only; rw [Int.toNat_natCast, set_at hK, if_pos rfl]
  have hol := over_len (d := f.data[K]!) (c := c.take n.toNat) (a := at'.toNat) (by omega)
  rw [hw] at hol
  have x2 : sSeek x (hdl b : Int) at' = (⟨x.data, setOff x (hdl b : Int) at'⟩, true) := by unfold sSeek; rw [if_pos ⟨opx, a0, by rw [hdx, hol]; omega⟩]
  have Fx' := Fx.seek (hdl b : Int) at'
  rw [x2] at Fx'
  have x3 := read_T (f := ⟨x.data, setOff x (hdl b : Int) at'⟩) (h := (hdl b : Int)) (n := n) ⟨setOff_opd opx, by dsimp only; rw [setOff_at opx, xo]⟩ (by omega)
  have hr : rdn ⟨x.data, setOff x (hdl b : Int) at'⟩ (hdl b : Int) n = n := by
    unfold rdn
    rw [setOff_dat opx, hdx, hol]
    dsimp only
    rw [setOff_at opx]
    dsimp only
    omega
  rw [hr, setOff_dat opx, hdx] at x3
  have hg : ((over f.data[K]! at'.toNat (c.take n.toNat)).drop at'.toNat).take n.toNat = c.take n.toNat := by
    unfold over
    rw [List.append_assoc, List.drop_append_of_le_length (by rw [List.length_take]; omega), List.drop_of_length_le (by rw [List.length_take]; omega), List.nil_append, List.take_append_of_le_length (by omega), List.take_of_length_le (by omega)]
  dsimp only at x3
  rw [setOff_at opx] at x3
  dsimp only at x3
  rw [hg] at x3
  exact ⟨x, _, _, _, x1, by omega, Fx, x2, Fx', x3⟩
attribute [local irreducible] fls sOpen sClose sSeek sRead sWrite hdl dcs
set_option maxHeartbeats 32000000 in
theorem fba_fn (l : List Int) (n0 o0 : Int) : Fnc Try.prog 6 [.sl false 1 (i64s l), .int .i64 n0, .int .i64 o0] (fun x obs => x = .bool true) := by
  have fo := files_fn l 0 (by omega)
  obtain ⟨F, hk⟩ := fls_fit (l := l) (k := 0) (by omega)
  have hd := fls_dlen l 0
  generalize fls l 0 = q at fo F hk hd
  obtain ⟨f, kk⟩ := q
  dsimp only at fo F hk hd
  have fm := mmod_fn n0 f.data.length (by omega)
  have hb := Int.emod_nonneg n0 (b := (f.data.length : Int)) (by omega)
  have hb2 := Int.emod_lt_of_pos n0 (b := (f.data.length : Int)) (by omega)
  generalize n0 % (f.data.length : Int) = K0 at fm hb hb2
  obtain ⟨K, rfl⟩ : ∃ K : Nat, (K : Int) = K0 := ⟨K0.toNat, by omega⟩
  have hfo := F.o
  have hl64 := F.len _ (mem_at (k := K) (by omega))
  have fc := canons_sl l kk 9 hk (by omega) (by omega)
  have lc := dcs_len (l := l) (k := kk) (n := 9) (by omega)
  have cc := dcs_cells l kk 9
  generalize dcs l kk 9 = q2 at fc lc cc
  obtain ⟨c, k2⟩ := q2
  dsimp only at fc lc cc
  have f1 := wopen_fn f F K 2
  by_cases hneg : (sOpen f K 2).2 < 0
  · rw [open_no F hneg] at f1
    refine Fnc.intro m_fba_ok (by simp) fun W S => ?_
    unfold m_fba
    simp only [ents, Nat.zero_add, Nat.reduceAdd]
    refine zst ?_
    (first | refine callX (new_fn l) ?_ | refine callXw (new_fn l) ?_); simp only [go_sem]
    refine zst ?_
    (first | apply st_callMD (fo) rfl | apply evw_callM (fo) rfl)
    · (simp only [go_sem]; rfl)
    · rfl
    · (first | rfl | (simp only [go_sem]; done))
    · (first | rfl | (simp only [go_sem]; done) | (simp only [go_sem]; rfl))
    · (first | rfl | (simp only [go_sem]; done))
    · (first | rfl | (simp only [go_sem]; done) | (simp only [go_sem]; rfl))
    · (first | rfl | simp [V.pureT, V.pure, V.pures, pures_lo, pures_sls])
    (first | refine ev_all (fu := [(), (), (), (), (), (), (), ()]) ?_ | refine evw_all (md := []) (fu := [(), (), (), (), (), (), (), ()]) ?_); refine zev ?_
    refine zst ?_
    (first | refine callD (fm) ?_ | refine callDw (fm) ?_); simp only [go_sem]
    refine zst ?_
    (first | apply st_callMD (fc) rfl | apply evw_callM (fc) rfl)
    · (simp only [go_sem]; rfl)
    · rfl
    · (first | rfl | (simp only [go_sem]; done))
    · (first | rfl | (simp only [go_sem]; done) | (simp only [go_sem]; rfl))
    · (first | rfl | (simp only [go_sem]; done))
    · (first | rfl | (simp only [go_sem]; done) | (simp only [go_sem]; rfl))
    · (first | rfl | simp [V.pureT, V.pure, V.pures, pures_lo, pures_sls])
    (first | refine ev_all (fu := [(), (), (), (), (), (), (), ()]) ?_ | refine evw_all (md := []) (fu := [(), (), (), (), (), (), (), ()]) ?_); refine zev ?_
    refine zst ?_
    (first | refine callD (f1) ?_ | refine callDw (f1) ?_); simp only [go_sem]
    refine zst ?_
    (first | refine callD (awake17_fn) ?_ | refine callDw (awake17_fn) ?_); simp only [go_sem]
    refine zst ?_
    refine ret m_fba_ok [] ?_; (first | (simp only [go_sem]; done) | (simp only [go_sem]; ((try dsimp only); (repeat' (refine And.intro ?_ ?_)) <;> first | with_reducible rfl | (simp only [go_sem]; done) | (simp only [go_sem]; rfl) | (simp only []; (try simp only [go_sem]); first | done | rfl) | (simp only [go_sem]; simp []; done) | (simp []; done) | rfl)))
  · have g2 := mmod_fn o0 (f.data[K]!.length + 1) (by omega)
    have d0 := Int.emod_nonneg o0 (b := (f.data[K]!.length + 1 : Int)) (by omega)
    have d1 := Int.emod_lt_of_pos o0 (b := (f.data[K]!.length + 1 : Int)) (by omega)
    generalize o0 % (f.data[K]!.length + 1 : Int) = at' at g2 d0 d1
    obtain ⟨a, a', b, n, B⟩ := back F (K := K) (by omega) d0 (by omega) cc (by omega)
    generalize (sOpen f K 2).2 = H at B hneg
    have Fa := F.open K 2
    rw [B.h1] at Fa f1
    dsimp only at Fa f1
    have Fa' := Fa.seek H at'
    have f2 := wseek_fn a Fa H at'
    rw [B.h2] at Fa' f2
    dsimp only at Fa' f2
    have Fb := Fa'.write H c
    have f3 := wwrite_fn a' Fa' H c (by omega)
    rw [B.h3] at Fb f3
    dsimp only at Fb f3
    have f4 := wopen_fn b Fb K 0
    have v := rvalf_fn b
    rw [valF_T Fb] at v
    have z1 := B.dl
    have z2 := B.ol
    have z3 := B.nn
    have z4 := B.bl
    rcases B.ag.h with hx | ⟨x, x', y, r, y1, y2, y3, y4, y5, y6⟩
    · generalize sOpen b K 0 = q3 at f4 hx
      obtain ⟨x, r⟩ := q3
      dsimp only at f4 hx
      refine Fnc.intro m_fba_ok (by simp) fun W S => ?_
      unfold m_fba
      simp only [ents, Nat.zero_add, Nat.reduceAdd]
      refine zst ?_
      (first | refine callX (new_fn l) ?_ | refine callXw (new_fn l) ?_); simp only [go_sem]
      refine zst ?_
      (first | apply st_callMD (fo) rfl | apply evw_callM (fo) rfl)
      · (simp only [go_sem]; rfl)
      · rfl
      · (first | rfl | (simp only [go_sem]; done))
      · (first | rfl | (simp only [go_sem]; done) | (simp only [go_sem]; rfl))
      · (first | rfl | (simp only [go_sem]; done))
      · (first | rfl | (simp only [go_sem]; done) | (simp only [go_sem]; rfl))
      · (first | rfl | simp [V.pureT, V.pure, V.pures, pures_lo, pures_sls])
      (first | refine ev_all (fu := [(), (), (), (), (), (), (), ()]) ?_ | refine evw_all (md := []) (fu := [(), (), (), (), (), (), (), ()]) ?_); refine zev ?_
      refine zst ?_
      (first | refine callD (fm) ?_ | refine callDw (fm) ?_); simp only [go_sem]
      refine zst ?_
      (first | apply st_callMD (fc) rfl | apply evw_callM (fc) rfl)
      · (simp only [go_sem]; rfl)
      · rfl
      · (first | rfl | (simp only [go_sem]; done))
      · (first | rfl | (simp only [go_sem]; done) | (simp only [go_sem]; rfl))
      · (first | rfl | (simp only [go_sem]; done))
      · (first | rfl | (simp only [go_sem]; done) | (simp only [go_sem]; rfl))
      · (first | rfl | simp [V.pureT, V.pure, V.pures, pures_lo, pures_sls])
      (first | refine ev_all (fu := [(), (), (), (), (), (), (), ()]) ?_ | refine evw_all (md := []) (fu := [(), (), (), (), (), (), (), ()]) ?_); refine zev ?_
      refine zst ?_
      (first | refine callD (f1) ?_ | refine callDw (f1) ?_); simp only [go_sem]
      refine zst ?_
      (first | refine callD (g2) ?_ | refine callDw (g2) ?_); simp only [go_sem]
      refine zst ?_
      (first | refine callD (f2) ?_ | refine callDw (f2) ?_); simp only [go_sem]
      refine zst ?_
      (first | refine callD (f3) ?_ | refine callDw (f3) ?_); simp only [go_sem]
      refine zst ?_
      (first | refine callD (f4) ?_ | refine callDw (f4) ?_); simp only [go_sem]
      refine zst ?_
      (first | refine callD (v) ?_ | refine callDw (v) ?_); simp only [go_sem]
      refine zst ?_
      refine ev_loopK [8, 9, 10, 13, 16, 18, 19, 113, 114] (fun p : {p : Nat // p ≤ 2} => [(115, .int .i64 p.1)]) (fun _ => [⟨.box false 66, true, 0, deckV l k2⟩, ⟨.box false 26, true, 0, filV f⟩, ⟨.box false 26, true, 0, filV a'⟩, ⟨.box false 26, true, 0, filV b⟩, ⟨.box false 26, true, 0, filV x⟩]) (fun p => 2 - p.1) (⟨0, by omega⟩) 5 (by simp only [go_sem]; rfl) ?_ (by first | rfl | (simp only [go_sem]; done)) (by simp) (by first | rfl | (simp only [go_sem]; done)) (by first | rfl | (simp only [go_sem]; done)) (by first | rfl | (simp only [go_sem]; done)) ?_
      · (simp only [go_sem]; (try simp []); done)
      intro J hJ
      rintro ⟨i, hi⟩
      by_cases hl2 : i < 2
      · by_cases c1 : i = K
        · skip
          refine zst ?_
          refine ev_next 5 (hJ _ (⟨i + 1, hl2⟩) (by first | omega | (dsimp only; omega) | (simp; omega))) rfl (by simp) ?_ (by first | rfl | (simp only [go_sem]; done)) (by first | rfl | (simp only [go_sem]; done) | (simp only [hl2]; (try simp only [go_sem]); first | done | rfl)) ?_
          · (first | rfl | (simp only [go_sem]; done) | (simp only [go_sem]; simp only [hl2]; done) | (simp only [hl2]; done) | (simp only [go_sem]; simp [hl2]; done) | (simp [hl2]; done))
          · (simp only [go_sem]; (repeat' (refine And.intro ?_ ?_)) <;> first | exact trivial | with_reducible rfl | (simp only [hl2]; done) | (simp only [hl2]; with_reducible rfl) | (simp [hl2]; done) | (simp [hl2]; omega) | (simp only [hl2]; rfl) | skip)
        · have hd2 : decide (b.data[i]! = f.data[i]!) = true := decT (B.bd i (by omega) c1)
          refine zst ?_
          (first | refine callD (samec_fn b.data[i]! f.data[i]!) ?_ | refine callDw (samec_fn b.data[i]! f.data[i]!) ?_); simp only [go_sem, hd2]
          refine zst ?_
          refine ev_next 5 (hJ _ (⟨i + 1, hl2⟩) (by first | omega | (dsimp only; omega) | (simp; omega))) rfl (by simp) ?_ (by first | rfl | (simp only [go_sem]; done)) (by first | rfl | (simp only [go_sem]; done) | (simp only [hl2]; (try simp only [go_sem]); first | done | rfl)) ?_
          · (first | rfl | (simp only [go_sem]; done) | (simp only [go_sem]; simp only [hl2]; done) | (simp only [hl2]; done) | (simp only [go_sem]; simp [hl2]; done) | (simp [hl2]; done))
          · (simp only [go_sem]; (repeat' (refine And.intro ?_ ?_)) <;> first | exact trivial | with_reducible rfl | (simp only [hl2]; done) | (simp only [hl2]; with_reducible rfl) | (simp [hl2]; done) | (simp [hl2]; omega) | (simp only [hl2]; rfl) | skip)
      · skip
        refine zst ?_
        (first | refine callD (awake17_fn) ?_ | refine callDw (awake17_fn) ?_); simp only [go_sem]
        refine zst ?_
        refine ret m_fba_ok [] ?_; (first | (simp only [go_sem]; done) | (simp only [go_sem]; ((try dsimp only); (repeat' (refine And.intro ?_ ?_)) <;> first | with_reducible rfl | (simp only [go_sem]; done) | (simp only [go_sem]; rfl) | (simp only []; (try simp only [go_sem]); first | done | rfl) | (simp only [go_sem]; simp []; done) | (simp []; done) | rfl)))
    · rw [y1] at f4
      have f5 := wseek_fn x y3 r at'
      rw [y4] at f5
      have f6 := wread_fn x' y5 r n
      rw [y6] at f6
      dsimp only at f4 f5 f6
      have f7 := samec_fn (c.take n.toNat) (c.take n.toNat)
      rw [decT rfl] at f7
      have zc : (c.take n.toNat).length ≤ 9 := by rw [List.length_take]; omega
      refine Fnc.intro m_fba_ok (by simp) fun W S => ?_
      unfold m_fba
      simp only [ents, Nat.zero_add, Nat.reduceAdd]
      refine zst ?_
      (first | refine callX (new_fn l) ?_ | refine callXw (new_fn l) ?_); simp only [go_sem]
      refine zst ?_
      (first | apply st_callMD (fo) rfl | apply evw_callM (fo) rfl)
      · (simp only [go_sem]; rfl)
      · rfl
      · (first | rfl | (simp only [go_sem]; done))
      · (first | rfl | (simp only [go_sem]; done) | (simp only [go_sem]; rfl))
      · (first | rfl | (simp only [go_sem]; done))
      · (first | rfl | (simp only [go_sem]; done) | (simp only [go_sem]; rfl))
      · (first | rfl | simp [V.pureT, V.pure, V.pures, pures_lo, pures_sls])
      (first | refine ev_all (fu := [(), (), (), (), (), (), (), ()]) ?_ | refine evw_all (md := []) (fu := [(), (), (), (), (), (), (), ()]) ?_); refine zev ?_
      refine zst ?_
      (first | refine callD (fm) ?_ | refine callDw (fm) ?_); simp only [go_sem]
      refine zst ?_
      (first | apply st_callMD (fc) rfl | apply evw_callM (fc) rfl)
      · (simp only [go_sem]; rfl)
      · rfl
      · (first | rfl | (simp only [go_sem]; done))
      · (first | rfl | (simp only [go_sem]; done) | (simp only [go_sem]; rfl))
      · (first | rfl | (simp only [go_sem]; done))
      · (first | rfl | (simp only [go_sem]; done) | (simp only [go_sem]; rfl))
      · (first | rfl | simp [V.pureT, V.pure, V.pures, pures_lo, pures_sls])
      (first | refine ev_all (fu := [(), (), (), (), (), (), (), ()]) ?_ | refine evw_all (md := []) (fu := [(), (), (), (), (), (), (), ()]) ?_); refine zev ?_
      refine zst ?_
      (first | refine callD (f1) ?_ | refine callDw (f1) ?_); simp only [go_sem]
      refine zst ?_
      (first | refine callD (g2) ?_ | refine callDw (g2) ?_); simp only [go_sem]
      refine zst ?_
      (first | refine callD (f2) ?_ | refine callDw (f2) ?_); simp only [go_sem]
      refine zst ?_
      (first | refine callD (f3) ?_ | refine callDw (f3) ?_); simp only [go_sem]
      refine zst ?_
      (first | refine callD (f4) ?_ | refine callDw (f4) ?_); simp only [go_sem]
      refine zst ?_
      (first | refine callD (v) ?_ | refine callDw (v) ?_); simp only [go_sem]
      refine zst ?_
      refine ev_loopK [8, 9, 10, 13, 16, 18, 19, 113, 114] (fun p : {p : Nat // p ≤ 2} => [(115, .int .i64 p.1)]) (fun _ => [⟨.box false 66, true, 0, deckV l k2⟩, ⟨.box false 26, true, 0, filV f⟩, ⟨.box false 26, true, 0, filV a'⟩, ⟨.box false 26, true, 0, filV b⟩, ⟨.box false 26, true, 0, filV x⟩]) (fun p => 2 - p.1) (⟨0, by omega⟩) 5 (by simp only [go_sem]; rfl) ?_ (by first | rfl | (simp only [go_sem]; done)) (by simp) (by first | rfl | (simp only [go_sem]; done)) (by first | rfl | (simp only [go_sem]; done)) (by first | rfl | (simp only [go_sem]; done)) ?_
      · (simp only [go_sem]; (try simp []); done)
      intro J hJ
      rintro ⟨i, hi⟩
      by_cases hl2 : i < 2
      · by_cases c1 : i = K
        · skip
          refine zst ?_
          refine ev_next 5 (hJ _ (⟨i + 1, hl2⟩) (by first | omega | (dsimp only; omega) | (simp; omega))) rfl (by simp) ?_ (by first | rfl | (simp only [go_sem]; done)) (by first | rfl | (simp only [go_sem]; done) | (simp only [hl2]; (try simp only [go_sem]); first | done | rfl)) ?_
          · (first | rfl | (simp only [go_sem]; done) | (simp only [go_sem]; simp only [hl2]; done) | (simp only [hl2]; done) | (simp only [go_sem]; simp [hl2]; done) | (simp [hl2]; done))
          · (simp only [go_sem]; (repeat' (refine And.intro ?_ ?_)) <;> first | exact trivial | with_reducible rfl | (simp only [hl2]; done) | (simp only [hl2]; with_reducible rfl) | (simp [hl2]; done) | (simp [hl2]; omega) | (simp only [hl2]; rfl) | skip)
        · have hd2 : decide (b.data[i]! = f.data[i]!) = true := decT (B.bd i (by omega) c1)
          refine zst ?_
          (first | refine callD (samec_fn b.data[i]! f.data[i]!) ?_ | refine callDw (samec_fn b.data[i]! f.data[i]!) ?_); simp only [go_sem, hd2]
          refine zst ?_
          refine ev_next 5 (hJ _ (⟨i + 1, hl2⟩) (by first | omega | (dsimp only; omega) | (simp; omega))) rfl (by simp) ?_ (by first | rfl | (simp only [go_sem]; done)) (by first | rfl | (simp only [go_sem]; done) | (simp only [hl2]; (try simp only [go_sem]); first | done | rfl)) ?_
          · (first | rfl | (simp only [go_sem]; done) | (simp only [go_sem]; simp only [hl2]; done) | (simp only [hl2]; done) | (simp only [go_sem]; simp [hl2]; done) | (simp [hl2]; done))
          · (simp only [go_sem]; (repeat' (refine And.intro ?_ ?_)) <;> first | exact trivial | with_reducible rfl | (simp only [hl2]; done) | (simp only [hl2]; with_reducible rfl) | (simp [hl2]; done) | (simp [hl2]; omega) | (simp only [hl2]; rfl) | skip)
      · by_cases c4 : n = c.length
        · skip
          refine zst ?_
          (first | refine callD (f5) ?_ | refine callDw (f5) ?_); simp only [go_sem]
          refine zst ?_
          (first | refine callD (f6) ?_ | refine callDw (f6) ?_); simp only [go_sem]
          refine zst ?_
          (first | refine callD (f7) ?_ | refine callDw (f7) ?_); simp only [go_sem]
          refine zst ?_
          (first | refine callD (awake17_fn) ?_ | refine callDw (awake17_fn) ?_); simp only [go_sem]
          refine zst ?_
          refine ret m_fba_ok [] ?_; (first | (simp only [go_sem]; done) | (simp only [go_sem]; ((try dsimp only); (repeat' (refine And.intro ?_ ?_)) <;> first | with_reducible rfl | (simp only [go_sem]; done) | (simp only [go_sem]; rfl) | (simp only []; (try simp only [go_sem]); first | done | rfl) | (simp only [go_sem]; simp []; done) | (simp []; done) | rfl)))
        · skip
          refine zst ?_
          (first | refine callD (f5) ?_ | refine callDw (f5) ?_); simp only [go_sem]
          refine zst ?_
          (first | refine callD (f6) ?_ | refine callDw (f6) ?_); simp only [go_sem]
          refine zst ?_
          (first | refine callD (f7) ?_ | refine callDw (f7) ?_); simp only [go_sem]
          refine zst ?_
          (first | refine callD (awake17_fn) ?_ | refine callDw (awake17_fn) ?_); simp only [go_sem]
          refine zst ?_
          refine ret m_fba_ok [] ?_; (first | (simp only [go_sem]; done) | (simp only [go_sem]; ((try dsimp only); (repeat' (refine And.intro ?_ ?_)) <;> first | with_reducible rfl | (simp only [go_sem]; done) | (simp only [go_sem]; rfl) | (simp only []; (try simp only [go_sem]); first | done | rfl) | (simp only [go_sem]; simp []; done) | (simp []; done) | rfl)))
theorem fba_law {a0 : List Int} {v0 : Value} {a1 : Int} {v1 : Value} {a2 : Int} {v2 : Value} (W : World) (e0 : (Sh.slice (Sh.int .i64)).rd (old W) W a0 [v0]) (e1 : (Sh.int .i64).rd (old W) W a1 [v1]) (e2 : (Sh.int .i64).rd (old W) W a2 [v2]) :
    Calls Try.prog 6 #[v0, v1, v2] W fun e w' => e = .returned (.bool true) ∧ Below W.heap.size W w' :=
  Fnc.law (fba_fn a0 a1 a2) (RdTs.slice enc_i64s e0 (RdTs.int e1 (RdTs.int e2 RdTs.nil')))
end Go.Proofs.Ytanmcjkpdkmhfaa
