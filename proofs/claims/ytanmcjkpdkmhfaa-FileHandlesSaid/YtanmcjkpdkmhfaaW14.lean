/- Files: the least closed handle is opened, an open one is closed once (FileHandles). -/
import Derived.Test.YtanmcjkpdkmhfaaW11
import Derived.Test.YtanmcjkpdkmhfaaZt
import Derived.Test.YtanmcjkpdkmhfaaW12
namespace Go.Proofs.Ytanmcjkpdkmhfaa
open Go Go.RowKit Rdn Rdn.Dp
set_option linter.unusedVariables false
set_option linter.unusedSimpArgs false
def m_fha : MC := .seq (.reg [⟨(some 6), none, (.p (.mov (.c (.bool false))))⟩])
 (.seq (.reg [⟨(some 15), none, (.p (.mov (.t 0)))⟩, ⟨(some 16), none, (.call 9 [(.t 15)])⟩, ⟨(some 17), none, (.call 8 [(.t 16)])⟩, ⟨(some 7), none, (.m (.alloc 26 (.agg [.nilS, .nilS])))⟩, ⟨none, none, (.m (.store 2 (.t 7) (.t 17)))⟩])
 (.seq (.reg [⟨(some 8), none, (.p (.mov (.c (.int .i64 0))))⟩])
 (.seq (.block 0 (.loop (.seq (.seq (.reg [⟨(some 18), none, (.p (.mov (.t 8)))⟩, ⟨(some 19), none, (.p (.fieldA 1 1 (.t 7)))⟩, ⟨(some 20), none, (.p (.load false 1 (.t 19)))⟩, ⟨(some 21), none, (.p (.len (.t 20)))⟩, ⟨(some 22), none, (.p (.bin 0 .lss (.t 18) (.t 21)))⟩, ⟨(some 23), none, (.p (.mov (.t 22)))⟩, ⟨(some 24), (some (23, true)), (.p (.fieldA 1 1 (.t 7)))⟩, ⟨(some 25), (some (23, true)), (.p (.load false 1 (.t 24)))⟩, ⟨(some 26), (some (23, true)), (.p (.mov (.t 8)))⟩, ⟨(some 27), (some (23, true)), (.p (.idxA 3 (.t 25) (.t 26)))⟩, ⟨(some 28), (some (23, true)), (.p (.fieldA 0 0 (.t 27)))⟩, ⟨(some 29), (some (23, true)), (.p (.load false 1 (.t 28)))⟩, ⟨(some 30), (some (23, true)), (.p (.bin 0 .neq (.t 29) (.c (.int .i64 (-1)))))⟩, ⟨(some 31), none, (.p (.pick (.t 23) (.t 30) (.c (.bool false))))⟩])
 (.cond (.t 31) (.skip) (.exit 0)))
 (.block 1 (.reg [⟨(some 32), none, (.p (.mov (.t 8)))⟩, ⟨(some 33), none, (.p (.bin 0 .add (.t 32) (.c (.int .i64 1))))⟩, ⟨(some 8), none, (.p (.mov (.t 33)))⟩])))))
 (.seq (.dreg [⟨(some 35), none, (.p (.load true 2 (.t 7)))⟩, ⟨(some 36), none, (.p (.mov (.t 1)))⟩, ⟨(some 37), none, (.call 10 [(.t 36), (.c (.int .i64 5))])⟩, ⟨(some 38), none, (.p (.bin 0 .sub (.t 37) (.c (.int .i64 1))))⟩, ⟨(some 39), none, (.p (.mov (.t 2)))⟩, ⟨(some 40), none, (.call 10 [(.t 39), (.c (.int .i64 5))])⟩, ⟨(some 41), none, (.p (.bin 0 .sub (.t 40) (.c (.int .i64 1))))⟩, ⟨(some 42), none, (.call 11 [(.t 35), (.t 38), (.t 41)])⟩, ⟨(some 34), none, (.p (.mov (.t 42)))⟩, ⟨(some 43), none, (.p (.ext (.t 34) 0))⟩, ⟨(some 44), none, (.p (.ext (.t 34) 1))⟩, ⟨(some 9), none, (.m (.alloc 26 (.agg [.nilS, .nilS])))⟩, ⟨none, none, (.m (.store 2 (.t 9) (.t 43)))⟩, ⟨(some 10), none, (.p (.mov (.t 44)))⟩] [[], [], [1], [1, 2], [], [1, 2, 4], [1, 2, 4, 5], [0, 1, 2, 3, 4, 5, 6], [0, 1, 2, 3, 4, 5, 6, 7], [0, 1, 2, 3, 4, 5, 6, 7, 8], [0, 1, 2, 3, 4, 5, 6, 7, 8], [], [0, 1, 2, 3, 4, 5, 6, 7, 8, 9, 11], [0, 1, 2, 3, 4, 5, 6, 7, 8, 9, 10, 11, 12]])
 (.seq (.seq (.reg [⟨(some 45), none, (.p (.load true 2 (.t 9)))⟩, ⟨(some 46), none, (.call 16 [(.t 45)])⟩, ⟨(some 47), none, (.p (.un .not (.t 46)))⟩])
 (.cond (.t 47) (.seq (.reg [⟨(some 6), none, (.p (.mov (.c (.bool false))))⟩])
 (.ret)) (.skip)))
 (.seq (.seq (.reg [⟨(some 48), none, (.p (.mov (.t 10)))⟩, ⟨(some 49), none, (.p (.bin 0 .lss (.t 48) (.c (.int .i64 0))))⟩])
 (.cond (.t 49) (.seq (.reg [⟨(some 50), none, (.p (.load true 2 (.t 9)))⟩, ⟨(some 51), none, (.p (.load true 2 (.t 7)))⟩, ⟨(some 52), none, (.call 15 [(.t 50), (.t 51)])⟩, ⟨(some 53), none, (.p (.mov (.t 52)))⟩, ⟨(some 54), (some (53, true)), (.call 13 [])⟩, ⟨(some 55), none, (.p (.pick (.t 53) (.t 54) (.c (.bool false))))⟩, ⟨(some 6), none, (.p (.mov (.t 55)))⟩])
 (.ret)) (.skip)))
 (.seq (.reg [⟨(some 57), none, (.p (.load true 2 (.t 9)))⟩, ⟨(some 58), none, (.p (.mov (.t 10)))⟩, ⟨(some 59), none, (.call 17 [(.t 57), (.t 58)])⟩, ⟨(some 56), none, (.p (.mov (.t 59)))⟩, ⟨(some 60), none, (.p (.ext (.t 56) 0))⟩, ⟨(some 61), none, (.p (.ext (.t 56) 1))⟩, ⟨(some 11), none, (.m (.alloc 26 (.agg [.nilS, .nilS])))⟩, ⟨none, none, (.m (.store 2 (.t 11) (.t 60)))⟩, ⟨(some 12), none, (.p (.mov (.t 61)))⟩])
 (.seq (.reg [⟨(some 63), none, (.p (.load true 2 (.t 11)))⟩, ⟨(some 64), none, (.p (.mov (.t 10)))⟩, ⟨(some 65), none, (.call 17 [(.t 63), (.t 64)])⟩, ⟨(some 62), none, (.p (.mov (.t 65)))⟩, ⟨(some 66), none, (.p (.ext (.t 62) 0))⟩, ⟨(some 67), none, (.p (.ext (.t 62) 1))⟩, ⟨(some 13), none, (.m (.alloc 26 (.agg [.nilS, .nilS])))⟩, ⟨none, none, (.m (.store 2 (.t 13) (.t 66)))⟩, ⟨(some 14), none, (.p (.mov (.t 67)))⟩])
 (.seq (.dreg [⟨(some 68), none, (.p (.mov (.t 10)))⟩, ⟨(some 69), none, (.p (.mov (.t 8)))⟩, ⟨(some 70), none, (.p (.bin 0 .eql (.t 68) (.t 69)))⟩, ⟨(some 71), none, (.p (.mov (.t 70)))⟩, ⟨(some 72), (some (71, true)), (.p (.mov (.t 12)))⟩, ⟨(some 73), none, (.p (.pick (.t 71) (.t 72) (.c (.bool false))))⟩, ⟨(some 74), none, (.p (.mov (.t 73)))⟩, ⟨(some 75), (some (74, true)), (.p (.mov (.t 14)))⟩, ⟨(some 76), (some (74, true)), (.p (.un .not (.t 75)))⟩, ⟨(some 77), none, (.p (.pick (.t 74) (.t 76) (.c (.bool false))))⟩, ⟨(some 78), none, (.p (.mov (.t 77)))⟩, ⟨(some 79), (some (78, true)), (.p (.load true 2 (.t 11)))⟩, ⟨(some 80), (some (78, true)), (.call 16 [(.t 79)])⟩, ⟨(some 81), none, (.p (.pick (.t 78) (.t 80) (.c (.bool false))))⟩, ⟨(some 82), none, (.p (.mov (.t 81)))⟩, ⟨(some 83), (some (82, true)), (.p (.fieldA 1 1 (.t 11)))⟩, ⟨(some 84), (some (82, true)), (.p (.load false 1 (.t 83)))⟩, ⟨(some 85), (some (82, true)), (.p (.mov (.t 10)))⟩, ⟨(some 86), (some (82, true)), (.p (.idxA 3 (.t 84) (.t 85)))⟩, ⟨(some 87), (some (82, true)), (.p (.fieldA 0 0 (.t 86)))⟩, ⟨(some 88), (some (82, true)), (.p (.load false 1 (.t 87)))⟩, ⟨(some 89), (some (82, true)), (.p (.bin 0 .eql (.t 88) (.c (.int .i64 (-1)))))⟩, ⟨(some 90), none, (.p (.pick (.t 82) (.t 89) (.c (.bool false))))⟩, ⟨(some 91), none, (.p (.mov (.t 90)))⟩, ⟨(some 92), (some (91, true)), (.p (.fieldA 1 1 (.t 9)))⟩, ⟨(some 93), (some (91, true)), (.p (.load false 1 (.t 92)))⟩, ⟨(some 94), (some (91, true)), (.p (.mov (.t 10)))⟩, ⟨(some 95), (some (91, true)), (.p (.idxA 3 (.t 93) (.t 94)))⟩, ⟨(some 96), (some (91, true)), (.p (.fieldA 2 2 (.t 95)))⟩, ⟨(some 97), (some (91, true)), (.p (.load false 1 (.t 96)))⟩, ⟨(some 98), (some (91, true)), (.p (.mov (.t 2)))⟩, ⟨(some 99), (some (91, true)), (.call 10 [(.t 98), (.c (.int .i64 5))])⟩, ⟨(some 100), (some (91, true)), (.p (.bin 0 .sub (.t 99) (.c (.int .i64 1))))⟩, ⟨(some 101), (some (91, true)), (.p (.bin 0 .gtr (.t 100) (.c (.int .i64 0))))⟩, ⟨(some 102), (some (91, true)), (.p (.bin 1 .eql (.t 97) (.t 101)))⟩, ⟨(some 103), none, (.p (.pick (.t 91) (.t 102) (.c (.bool false))))⟩, ⟨(some 104), none, (.p (.mov (.t 103)))⟩, ⟨(some 105), (some (104, true)), (.call 13 [])⟩, ⟨(some 106), none, (.p (.pick (.t 104) (.t 105) (.c (.bool false))))⟩, ⟨(some 6), none, (.p (.mov (.t 106)))⟩] [[], [], [0, 1], [0, 1, 2], [0, 1, 2, 3], [0, 1, 2, 3, 4], [0, 1, 2, 3, 4, 5], [0, 1, 2, 3, 4, 5, 6], [0, 1, 2, 3, 4, 5, 6, 7], [0, 1, 2, 3, 4, 5, 6, 7, 8], [0, 1, 2, 3, 4, 5, 6, 7, 8, 9], [0, 1, 2, 3, 4, 5, 6, 7, 8, 9, 10], [0, 1, 2, 3, 4, 5, 6, 7, 8, 9, 10, 11], [0, 1, 2, 3, 4, 5, 6, 7, 8, 9, 10, 11, 12], [0, 1, 2, 3, 4, 5, 6, 7, 8, 9, 10, 11, 12, 13], [0, 1, 2, 3, 4, 5, 6, 7, 8, 9, 10, 11, 12, 13, 14], [0, 1, 2, 3, 4, 5, 6, 7, 8, 9, 10, 11, 12, 13, 14, 15], [0, 1, 2, 3, 4, 5, 6, 7, 8, 9, 10, 11, 12, 13, 14], [0, 1, 2, 3, 4, 5, 6, 7, 8, 9, 10, 11, 12, 13, 14, 15, 16, 17], [0, 1, 2, 3, 4, 5, 6, 7, 8, 9, 10, 11, 12, 13, 14, 15, 16, 17, 18], [0, 1, 2, 3, 4, 5, 6, 7, 8, 9, 10, 11, 12, 13, 14, 15, 16, 17, 18, 19], [0, 1, 2, 3, 4, 5, 6, 7, 8, 9, 10, 11, 12, 13, 14, 15, 16, 17, 18, 19, 20], [0, 1, 2, 3, 4, 5, 6, 7, 8, 9, 10, 11, 12, 13, 14, 15, 16, 17, 18, 19, 20, 21], [0, 1, 2, 3, 4, 5, 6, 7, 8, 9, 10, 11, 12, 13, 14, 15, 16, 17, 18, 19, 20, 21, 22], [0, 1, 2, 3, 4, 5, 6, 7, 8, 9, 10, 11, 12, 13, 14, 15, 16, 17, 18, 19, 20, 21, 22, 23], [0, 1, 2, 3, 4, 5, 6, 7, 8, 9, 10, 11, 12, 13, 14, 15, 16, 17, 18, 19, 20, 21, 22, 23, 24], [0, 1, 2, 3, 4, 5, 6, 7, 8, 9, 10, 11, 12, 13, 14, 15, 16, 17, 18, 19, 20, 21, 22, 23], [0, 1, 2, 3, 4, 5, 6, 7, 8, 9, 10, 11, 12, 13, 14, 15, 16, 17, 18, 19, 20, 21, 22, 23, 24, 25, 26], [0, 1, 2, 3, 4, 5, 6, 7, 8, 9, 10, 11, 12, 13, 14, 15, 16, 17, 18, 19, 20, 21, 22, 23, 24, 25, 26, 27], [0, 1, 2, 3, 4, 5, 6, 7, 8, 9, 10, 11, 12, 13, 14, 15, 16, 17, 18, 19, 20, 21, 22, 23, 24, 25, 26, 27, 28], [0, 1, 2, 3, 4, 5, 6, 7, 8, 9, 10, 11, 12, 13, 14, 15, 16, 17, 18, 19, 20, 21, 22, 23], [0, 1, 2, 3, 4, 5, 6, 7, 8, 9, 10, 11, 12, 13, 14, 15, 16, 17, 18, 19, 20, 21, 22, 23, 30], [0, 1, 2, 3, 4, 5, 6, 7, 8, 9, 10, 11, 12, 13, 14, 15, 16, 17, 18, 19, 20, 21, 22, 23, 30, 31], [0, 1, 2, 3, 4, 5, 6, 7, 8, 9, 10, 11, 12, 13, 14, 15, 16, 17, 18, 19, 20, 21, 22, 23, 30, 31, 32], [0, 1, 2, 3, 4, 5, 6, 7, 8, 9, 10, 11, 12, 13, 14, 15, 16, 17, 18, 19, 20, 21, 22, 23, 24, 25, 26, 27, 28, 29, 30, 31, 32, 33], [0, 1, 2, 3, 4, 5, 6, 7, 8, 9, 10, 11, 12, 13, 14, 15, 16, 17, 18, 19, 20, 21, 22, 23, 24, 25, 26, 27, 28, 29, 30, 31, 32, 33, 34], [0, 1, 2, 3, 4, 5, 6, 7, 8, 9, 10, 11, 12, 13, 14, 15, 16, 17, 18, 19, 20, 21, 22, 23, 24, 25, 26, 27, 28, 29, 30, 31, 32, 33, 34, 35], [0, 1, 2, 3, 4, 5, 6, 7, 8, 9, 10, 11, 12, 13, 14, 15, 16, 17, 18, 19, 20, 21, 22, 23, 24, 25, 26, 27, 28, 29, 30, 31, 32, 33, 34, 35, 36], [0, 1, 2, 3, 4, 5, 6, 7, 8, 9, 10, 11, 12, 13, 14, 15, 16, 17, 18, 19, 20, 21, 22, 23, 24, 25, 26, 27, 28, 29, 30, 31, 32, 33, 34, 35, 36, 37], [0, 1, 2, 3, 4, 5, 6, 7, 8, 9, 10, 11, 12, 13, 14, 15, 16, 17, 18, 19, 20, 21, 22, 23, 24, 25, 26, 27, 28, 29, 30, 31, 32, 33, 34, 35, 36, 37, 38]])
 (.ret))))))))))
theorem m_fha_ok : compF Try.prog 5 = some (107, m_fha, [.mov (.t 6)]) := by kernel_rfl
structure OpH (f a : Files) (m h : Int) : Prop where
  h : h = hdl f
  lt : hdl f < 8
  l : a.opens.length = 8
  fl : a.opens[hdl f]!.file ≠ -1
  w : a.opens[hdl f]!.write = decide (0 < m)
theorem open_h {f : Files} (F : FitF f) {k m : Int} (h : 0 ≤ (sOpen f k m).2) : OpH f (sOpen f k m).1 m (sOpen f k m).2 := by
  have hO := F.o
  have hh := hdl_le f
  by_cases c : k < 0 ∨ (f.data.length : Int) ≤ k ∨ m < 0 ∨ 2 < m ∨ hdl f = f.opens.length
  · rw [sOpen_F c] at h; exact absurd h (fun h => by simp only at h; omega)
  have hlt : hdl f < 8 := by omega
  have hm : m = 0 ∨ m = 1 ∨ m = 2 := by omega
  rcases hm with rfl | rfl | rfl
  · rw [sOpen_0 (by omega)]
    refine ⟨rfl, hlt, by simp [hO], ?_, ?_⟩
    · dsimp only; rw [set_at (by omega), if_pos rfl]; dsimp only; omega
    · dsimp only; rw [set_at (by omega), if_pos rfl]; rfl
  · rw [sOpen_1 (by omega)]
    refine ⟨rfl, hlt, by simp [hO], ?_, ?_⟩
    · dsimp only; rw [set_at (by simp; omega), if_pos rfl]; dsimp only; omega
    · dsimp only; rw [set_at (by simp; omega), if_pos rfl]; rfl
  · rw [sOpen_2 (by omega)]
    refine ⟨rfl, hlt, by simp [hO], ?_, ?_⟩
    · dsimp only; rw [set_at (by omega), if_pos rfl]; dsimp only; omega
    · dsimp only; rw [set_at (by omega), if_pos rfl]; rfl
theorem close_twice {a : Files} (F : FitF a) {H : Nat} (h1 : H < 8) (h2 : a.opens[H]!.file ≠ -1) : ∃ b, sClose a H = (b, true) ∧ FitF b ∧ sClose b H = (b, false) ∧ b.opens[H]!.file = -1 ∧ b.opens.length = 8 := by
  have hO := F.o
  have e : sClose a H = (⟨a.data, a.opens.set H shut⟩, true) := by
    unfold sClose
    rw [if_pos ⟨by omega, by omega, by rw [Int.toNat_natCast]; exact h2⟩, Int.toNat_natCast]
  have hs : (a.opens.set H shut)[H]! = shut := by rw [set_at (by omega), if_pos rfl]
  refine ⟨_, e, ?_, ?_, by dsimp only; rw [hs]; rfl, by simp [hO]⟩
  · have := F.close H
    rw [e] at this
    exact this
  · unfold sClose
    rw [if_neg]
    rintro ⟨_, _, h3⟩
    rw [Int.toNat_natCast] at h3
    dsimp only at h3
    rw [hs] at h3
    exact h3 rfl
attribute [local irreducible] fls sOpen sClose hdl
set_option maxHeartbeats 16000000 in
theorem fha_fn (l : List Int) (n0 m0 : Int) : Fnc Try.prog 5 [.sl false 1 (i64s l), .int .i64 n0, .int .i64 m0] (fun x obs => x = .bool true) := by
  have fo := files_fn l 0 (by omega)
  obtain ⟨F, hk⟩ := fls_fit (l := l) (k := 0) (by omega)
  generalize fls l 0 = q at fo F hk
  obtain ⟨f, kk⟩ := q
  dsimp only at fo F hk
  have g1 := mmod_fn n0 5 (by omega)
  have g2 := mmod_fn m0 5 (by omega)
  have b1 := Int.emod_nonneg n0 (b := 5) (by omega)
  have b2 := Int.emod_nonneg m0 (b := 5) (by omega)
  have b3 := Int.emod_lt_of_pos n0 (b := 5) (by omega)
  have b4 := Int.emod_lt_of_pos m0 (b := 5) (by omega)
  generalize n0 % 5 = n at g1 b1 b3
  generalize m0 % 5 = m at g2 b2 b4
  have hfo := F.o
  have hle := hdl_le f
  have f1 := wopen_fn f F (n - 1) (m - 1)
  have Fa := F.open (n - 1) (m - 1)
  have v1 := rvalf_fn (sOpen f (n - 1) (m - 1)).1
  rw [valF_T Fa] at v1
  refine Fnc.intro m_fha_ok (by simp) fun W S => ?_
  unfold m_fha
  simp only [ents, Nat.zero_add, Nat.reduceAdd]
  refine zst ?_
  (first | refine callX (new_fn l) ?_ | refine callXw (new_fn l) ?_); simp only [go_sem]
  refine zst ?_
  (first | apply st_callMD (fo) rfl | apply evw_callM (fo) rfl)
  · (simp only [go_sem]; rfl)
  · rfl
  · (first | rfl | (simp only [go_sem]; done))
  · (first | rfl | (simp only [go_sem]; done) | (simp only [go_sem]; rfl))
  · (first | rfl | (simp only [go_sem]; done))
  · (first | rfl | (simp only [go_sem]; done) | (simp only [go_sem]; rfl))
  · (first | rfl | simp [V.pureT, V.pure, V.pures, pures_lo, pures_sls])
  (first | refine ev_all (fu := [(), (), (), (), (), (), (), ()]) ?_ | refine evw_all (md := []) (fu := [(), (), (), (), (), (), (), ()]) ?_); refine zev ?_
  refine zst ?_
  refine ev_loopK [1, 2, 7] (fun p : {p : Nat // p ≤ hdl f} => [(8, .int .i64 p.1)]) (fun _ => [⟨.box false 66, true, 0, deckV l kk⟩, ⟨.box false 26, true, 0, filV f⟩]) (fun p => hdl f - p.1) (⟨0, by omega⟩) 2 (by simp only [go_sem]; rfl) ?_ (by first | rfl | (simp only [go_sem]; done)) (by simp) (by first | rfl | (simp only [go_sem]; done)) (by first | rfl | (simp only [go_sem]; done)) (by first | rfl | (simp only [go_sem]; done)) ?_
  · (simp only [go_sem]; (try simp []); done)
  intro J hJ
  rintro ⟨p, hp⟩
  by_cases hlt : p < hdl f
  · have hn := hdl_at hlt
    refine zst ?_
    refine ev_next 2 (hJ _ (⟨p + 1, hlt⟩) (by first | omega | (dsimp only; omega) | (simp; omega))) rfl (by simp) ?_ (by first | rfl | (simp only [go_sem]; done)) (by first | rfl | (simp only [go_sem]; done) | (simp only [hlt]; (try simp only [go_sem]); first | done | rfl)) ?_
    · (first | rfl | (simp only [go_sem]; done) | (simp only [go_sem]; simp only [hlt]; done) | (simp only [hlt]; done) | (simp only [go_sem]; simp [hlt]; done) | (simp [hlt]; done))
    · (simp only [go_sem]; (repeat' (refine And.intro ?_ ?_)) <;> first | exact trivial | with_reducible rfl | (simp only [hlt]; done) | (simp only [hlt]; with_reducible rfl) | (simp [hlt]; done) | (simp [hlt]; omega) | (simp only [hlt]; rfl) | skip)
  · obtain rfl : p = hdl f := by omega
    by_cases c : (sOpen f (n - 1) (m - 1)).2 < 0
    · have e := open_no F c
      rw [e] at f1 v1
      have v2 := rsamf_fn f f
      rw [decT rfl] at v2
      by_cases c2 : hdl f < f.opens.length
      · have hi := hdl_is c2
        refine zso ?_
        refine ev_draw (fu := fu8) mixed [9] 2 rfl (by kernel_rfl) ?_; simp only [go_sem]
        repeat (first | refine And.intro (by omega) ?_ | refine And.intro rfl ?_ | refine ev_ctl rfl rfl ?_ | refine evr_nil ?_ | refine evw_nil (by kernel_rfl) ?_ | (simp (disch := omega) only [takeAll, Nat.min_eq_left, Nat.min_eq_right, if_pos, if_neg, getD_map, wrapI64, modIn, fdivE, tmodE, tdivE, decT, decF, beqT, beqF, bneT, bneF, Int.toNat_natCast]; try simp only [go_sem]) | (refine ev_condTb rfl ?_ ?_; · (simp <;> omega)) | (refine ev_condFb rfl ?_ ?_; · (simp <;> omega)) | ((first | refine ev_region ?_ | refine evr_go rfl ?_ | refine evw_gom [9] rfl ?_ | refine ev_dr0 mixed rfl (by kernel_rfl) ?_ | refine ev_dr1 mixed rfl (by kernel_rfl) ?_ | refine ev_dr2 mixed rfl (by kernel_rfl) ?_); simp only [go_sem]))
        (first | refine callD (g1) ?_ | refine callDw (g1) ?_); simp only [go_sem]
        refine zst ?_
        (first | refine callD (g2) ?_ | refine callDw (g2) ?_); simp only [go_sem]
        refine zst ?_
        (first | refine callD (f1) ?_ | refine callDw (f1) ?_); simp only [go_sem]
        refine zst ?_
        (first | refine callD (v1) ?_ | refine callDw (v1) ?_); simp only [go_sem]
        refine zst ?_
        (first | refine callD (v2) ?_ | refine callDw (v2) ?_); simp only [go_sem]
        refine zst ?_
        (first | refine callD (awake17_fn) ?_ | refine callDw (awake17_fn) ?_); simp only [go_sem]
        refine zst ?_
        refine ret m_fha_ok [] ?_; (first | (simp only [go_sem]; done) | (simp only [go_sem]; ((try dsimp only); (repeat' (refine And.intro ?_ ?_)) <;> first | with_reducible rfl | (simp only [go_sem]; done) | (simp only [go_sem]; rfl) | (simp only []; (try simp only [go_sem]); first | done | rfl) | (simp only [go_sem]; simp []; done) | (simp []; done) | rfl)))
      · skip
        refine zso ?_
        refine ev_draw (fu := fu8) mixed [9] 2 rfl (by kernel_rfl) ?_; simp only [go_sem]
        repeat (first | refine And.intro (by omega) ?_ | refine And.intro rfl ?_ | refine ev_ctl rfl rfl ?_ | refine evr_nil ?_ | refine evw_nil (by kernel_rfl) ?_ | (simp (disch := omega) only [takeAll, Nat.min_eq_left, Nat.min_eq_right, if_pos, if_neg, getD_map, wrapI64, modIn, fdivE, tmodE, tdivE, decT, decF, beqT, beqF, bneT, bneF, Int.toNat_natCast]; try simp only [go_sem]) | (refine ev_condTb rfl ?_ ?_; · (simp <;> omega)) | (refine ev_condFb rfl ?_ ?_; · (simp <;> omega)) | ((first | refine ev_region ?_ | refine evr_go rfl ?_ | refine evw_gom [9] rfl ?_ | refine ev_dr0 mixed rfl (by kernel_rfl) ?_ | refine ev_dr1 mixed rfl (by kernel_rfl) ?_ | refine ev_dr2 mixed rfl (by kernel_rfl) ?_); simp only [go_sem]))
        (first | refine callD (g1) ?_ | refine callDw (g1) ?_); simp only [go_sem]
        refine zst ?_
        (first | refine callD (g2) ?_ | refine callDw (g2) ?_); simp only [go_sem]
        refine zst ?_
        (first | refine callD (f1) ?_ | refine callDw (f1) ?_); simp only [go_sem]
        refine zst ?_
        (first | refine callD (v1) ?_ | refine callDw (v1) ?_); simp only [go_sem]
        refine zst ?_
        (first | refine callD (v2) ?_ | refine callDw (v2) ?_); simp only [go_sem]
        refine zst ?_
        (first | refine callD (awake17_fn) ?_ | refine callDw (awake17_fn) ?_); simp only [go_sem]
        refine zst ?_
        refine ret m_fha_ok [] ?_; (first | (simp only [go_sem]; done) | (simp only [go_sem]; ((try dsimp only); (repeat' (refine And.intro ?_ ?_)) <;> first | with_reducible rfl | (simp only [go_sem]; done) | (simp only [go_sem]; rfl) | (simp only []; (try simp only [go_sem]); first | done | rfl) | (simp only [go_sem]; simp []; done) | (simp []; done) | rfl)))
    · obtain ⟨e1, e2, e3, e4, e5⟩ := open_h F (k := n - 1) (m := m - 1) (by omega)
      have hi := hdl_is (f := f) (by omega)
      generalize sOpen f (n - 1) (m - 1) = r at f1 v1 Fa c e1 e3 e4 e5
      obtain ⟨a, h⟩ := r
      dsimp only at f1 v1 Fa c e1 e3 e4 e5
      subst e1
      obtain ⟨b, k1, k2, k3, k4, k5⟩ := close_twice Fa e2 e4
      have f2 := wclose_fn a Fa (hdl f)
      rw [k1] at f2
      have f3 := wclose_fn b k2 (hdl f)
      rw [k3] at f3
      have v2 := rvalf_fn b
      rw [valF_T k2] at v2
      dsimp only at f2 f3
      by_cases c3 : 0 < m - 1
      · rw [decT c3] at e5
        refine zso ?_
        refine ev_draw (fu := fu8) mixed [9] 2 rfl (by kernel_rfl) ?_; simp only [go_sem]
        repeat (first | refine And.intro (by omega) ?_ | refine And.intro rfl ?_ | refine ev_ctl rfl rfl ?_ | refine evr_nil ?_ | refine evw_nil (by kernel_rfl) ?_ | (simp (disch := omega) only [takeAll, Nat.min_eq_left, Nat.min_eq_right, if_pos, if_neg, getD_map, wrapI64, modIn, fdivE, tmodE, tdivE, decT, decF, beqT, beqF, bneT, bneF, Int.toNat_natCast]; try simp only [go_sem]) | (refine ev_condTb rfl ?_ ?_; · (simp <;> omega)) | (refine ev_condFb rfl ?_ ?_; · (simp <;> omega)) | ((first | refine ev_region ?_ | refine evr_go rfl ?_ | refine evw_gom [9] rfl ?_ | refine ev_dr0 mixed rfl (by kernel_rfl) ?_ | refine ev_dr1 mixed rfl (by kernel_rfl) ?_ | refine ev_dr2 mixed rfl (by kernel_rfl) ?_); simp only [go_sem]))
        (first | refine callD (g1) ?_ | refine callDw (g1) ?_); simp only [go_sem]
        refine zst ?_
        (first | refine callD (g2) ?_ | refine callDw (g2) ?_); simp only [go_sem]
        refine zst ?_
        (first | refine callD (f1) ?_ | refine callDw (f1) ?_); simp only [go_sem]
        refine zst ?_
        (first | refine callD (v1) ?_ | refine callDw (v1) ?_); simp only [go_sem]
        refine zst ?_
        (first | refine callD (f2) ?_ | refine callDw (f2) ?_); simp only [go_sem]
        refine zst ?_
        (first | refine callD (f3) ?_ | refine callDw (f3) ?_); simp only [go_sem]
        refine zst ?_
        repeat (first | (simp only [e5]; try simp only [go_sem]) | refine And.intro (by omega) ?_ | refine And.intro rfl ?_ | refine ev_ctl rfl rfl ?_ | refine evr_nil ?_ | refine evw_nil (by kernel_rfl) ?_ | (simp (disch := omega) only [takeAll, Nat.min_eq_left, Nat.min_eq_right, if_pos, if_neg, getD_map, wrapI64, modIn, fdivE, tmodE, tdivE, decT, decF, beqT, beqF, bneT, bneF, Int.toNat_natCast]; try simp only [go_sem]) | (refine ev_condTb rfl ?_ ?_; · (simp <;> omega)) | (refine ev_condFb rfl ?_ ?_; · (simp <;> omega)) | ((first | refine ev_region ?_ | refine evr_go rfl ?_ | refine evw_go rfl ?_ | refine ev_dr0 mixed rfl (by kernel_rfl) ?_ | refine ev_dr1 mixed rfl (by kernel_rfl) ?_ | refine ev_dr2 mixed rfl (by kernel_rfl) ?_); simp only [go_sem]))
        (first | refine callD (v2) ?_ | refine callDw (v2) ?_); simp only [go_sem]
        refine zst ?_
        repeat (first | (simp only [e5]; try simp only [go_sem]) | refine And.intro (by omega) ?_ | refine And.intro rfl ?_ | refine ev_ctl rfl rfl ?_ | refine evr_nil ?_ | refine evw_nil (by kernel_rfl) ?_ | (simp (disch := omega) only [takeAll, Nat.min_eq_left, Nat.min_eq_right, if_pos, if_neg, getD_map, wrapI64, modIn, fdivE, tmodE, tdivE, decT, decF, beqT, beqF, bneT, bneF, Int.toNat_natCast]; try simp only [go_sem]) | (refine ev_condTb rfl ?_ ?_; · (simp <;> omega)) | (refine ev_condFb rfl ?_ ?_; · (simp <;> omega)) | ((first | refine ev_region ?_ | refine evr_go rfl ?_ | refine evw_go rfl ?_ | refine ev_dr0 mixed rfl (by kernel_rfl) ?_ | refine ev_dr1 mixed rfl (by kernel_rfl) ?_ | refine ev_dr2 mixed rfl (by kernel_rfl) ?_); simp only [go_sem]))
        (first | refine callD (g2) ?_ | refine callDw (g2) ?_); simp only [go_sem]
        refine zst ?_
        repeat (first | (simp only [e5]; try simp only [go_sem]) | refine And.intro (by omega) ?_ | refine And.intro rfl ?_ | refine ev_ctl rfl rfl ?_ | refine evr_nil ?_ | refine evw_nil (by kernel_rfl) ?_ | (simp (disch := omega) only [takeAll, Nat.min_eq_left, Nat.min_eq_right, if_pos, if_neg, getD_map, wrapI64, modIn, fdivE, tmodE, tdivE, decT, decF, beqT, beqF, bneT, bneF, Int.toNat_natCast]; try simp only [go_sem]) | (refine ev_condTb rfl ?_ ?_; · (simp <;> omega)) | (refine ev_condFb rfl ?_ ?_; · (simp <;> omega)) | ((first | refine ev_region ?_ | refine evr_go rfl ?_ | refine evw_go rfl ?_ | refine ev_dr0 mixed rfl (by kernel_rfl) ?_ | refine ev_dr1 mixed rfl (by kernel_rfl) ?_ | refine ev_dr2 mixed rfl (by kernel_rfl) ?_); simp only [go_sem]))
        (first | refine callD (awake17_fn) ?_ | refine callDw (awake17_fn) ?_); simp only [go_sem]
        refine zst ?_
        refine ret m_fha_ok [] ?_; (first | (simp only [go_sem]; done) | (simp only [go_sem]; ((try dsimp only); (repeat' (refine And.intro ?_ ?_)) <;> first | with_reducible rfl | (simp only [go_sem]; done) | (simp only [go_sem]; rfl) | (simp only []; (try simp only [go_sem]); first | done | rfl) | (simp only [go_sem]; simp []; done) | (simp []; done) | rfl)))
      · rw [decF c3] at e5
        refine zso ?_
        refine ev_draw (fu := fu8) mixed [9] 2 rfl (by kernel_rfl) ?_; simp only [go_sem]
        repeat (first | refine And.intro (by omega) ?_ | refine And.intro rfl ?_ | refine ev_ctl rfl rfl ?_ | refine evr_nil ?_ | refine evw_nil (by kernel_rfl) ?_ | (simp (disch := omega) only [takeAll, Nat.min_eq_left, Nat.min_eq_right, if_pos, if_neg, getD_map, wrapI64, modIn, fdivE, tmodE, tdivE, decT, decF, beqT, beqF, bneT, bneF, Int.toNat_natCast]; try simp only [go_sem]) | (refine ev_condTb rfl ?_ ?_; · (simp <;> omega)) | (refine ev_condFb rfl ?_ ?_; · (simp <;> omega)) | ((first | refine ev_region ?_ | refine evr_go rfl ?_ | refine evw_gom [9] rfl ?_ | refine ev_dr0 mixed rfl (by kernel_rfl) ?_ | refine ev_dr1 mixed rfl (by kernel_rfl) ?_ | refine ev_dr2 mixed rfl (by kernel_rfl) ?_); simp only [go_sem]))
        (first | refine callD (g1) ?_ | refine callDw (g1) ?_); simp only [go_sem]
        refine zst ?_
        (first | refine callD (g2) ?_ | refine callDw (g2) ?_); simp only [go_sem]
        refine zst ?_
        (first | refine callD (f1) ?_ | refine callDw (f1) ?_); simp only [go_sem]
        refine zst ?_
        (first | refine callD (v1) ?_ | refine callDw (v1) ?_); simp only [go_sem]
        refine zst ?_
        (first | refine callD (f2) ?_ | refine callDw (f2) ?_); simp only [go_sem]
        refine zst ?_
        (first | refine callD (f3) ?_ | refine callDw (f3) ?_); simp only [go_sem]
        refine zst ?_
        repeat (first | (simp only [e5]; try simp only [go_sem]) | refine And.intro (by omega) ?_ | refine And.intro rfl ?_ | refine ev_ctl rfl rfl ?_ | refine evr_nil ?_ | refine evw_nil (by kernel_rfl) ?_ | (simp (disch := omega) only [takeAll, Nat.min_eq_left, Nat.min_eq_right, if_pos, if_neg, getD_map, wrapI64, modIn, fdivE, tmodE, tdivE, decT, decF, beqT, beqF, bneT, bneF, Int.toNat_natCast]; try simp only [go_sem]) | (refine ev_condTb rfl ?_ ?_; · (simp <;> omega)) | (refine ev_condFb rfl ?_ ?_; · (simp <;> omega)) | ((first | refine ev_region ?_ | refine evr_go rfl ?_ | refine evw_go rfl ?_ | refine ev_dr0 mixed rfl (by kernel_rfl) ?_ | refine ev_dr1 mixed rfl (by kernel_rfl) ?_ | refine ev_dr2 mixed rfl (by kernel_rfl) ?_); simp only [go_sem]))
        (first | refine callD (v2) ?_ | refine callDw (v2) ?_); simp only [go_sem]
        refine zst ?_
        repeat (first | (simp only [e5]; try simp only [go_sem]) | refine And.intro (by omega) ?_ | refine And.intro rfl ?_ | refine ev_ctl rfl rfl ?_ | refine evr_nil ?_ | refine evw_nil (by kernel_rfl) ?_ | (simp (disch := omega) only [takeAll, Nat.min_eq_left, Nat.min_eq_right, if_pos, if_neg, getD_map, wrapI64, modIn, fdivE, tmodE, tdivE, decT, decF, beqT, beqF, bneT, bneF, Int.toNat_natCast]; try simp only [go_sem]) | (refine ev_condTb rfl ?_ ?_; · (simp <;> omega)) | (refine ev_condFb rfl ?_ ?_; · (simp <;> omega)) | ((first | refine ev_region ?_ | refine evr_go rfl ?_ | refine evw_go rfl ?_ | refine ev_dr0 mixed rfl (by kernel_rfl) ?_ | refine ev_dr1 mixed rfl (by kernel_rfl) ?_ | refine ev_dr2 mixed rfl (by kernel_rfl) ?_); simp only [go_sem]))
        (first | refine callD (g2) ?_ | refine callDw (g2) ?_); simp only [go_sem]
        refine zst ?_
        repeat (first | (simp only [e5]; try simp only [go_sem]) | refine And.intro (by omega) ?_ | refine And.intro rfl ?_ | refine ev_ctl rfl rfl ?_ | refine evr_nil ?_ | refine evw_nil (by kernel_rfl) ?_ | (simp (disch := omega) only [takeAll, Nat.min_eq_left, Nat.min_eq_right, if_pos, if_neg, getD_map, wrapI64, modIn, fdivE, tmodE, tdivE, decT, decF, beqT, beqF, bneT, bneF, Int.toNat_natCast]; try simp only [go_sem]) | (refine ev_condTb rfl ?_ ?_; · (simp <;> omega)) | (refine ev_condFb rfl ?_ ?_; · (simp <;> omega)) | ((first | refine ev_region ?_ | refine evr_go rfl ?_ | refine evw_go rfl ?_ | refine ev_dr0 mixed rfl (by kernel_rfl) ?_ | refine ev_dr1 mixed rfl (by kernel_rfl) ?_ | refine ev_dr2 mixed rfl (by kernel_rfl) ?_); simp only [go_sem]))
        (first | refine callD (awake17_fn) ?_ | refine callDw (awake17_fn) ?_); simp only [go_sem]
        refine zst ?_
        refine ret m_fha_ok [] ?_; (first | (simp only [go_sem]; done) | (simp only [go_sem]; ((try dsimp only); (repeat' (refine And.intro ?_ ?_)) <;> first | with_reducible rfl | (simp only [go_sem]; done) | (simp only [go_sem]; rfl) | (simp only []; (try simp only [go_sem]); first | done | rfl) | (simp only [go_sem]; simp []; done) | (simp []; done) | rfl)))
theorem fha_law {a0 : List Int} {v0 : Value} {a1 : Int} {v1 : Value} {a2 : Int} {v2 : Value} (W : World) (e0 : (Sh.slice (Sh.int .i64)).rd (old W) W a0 [v0]) (e1 : (Sh.int .i64).rd (old W) W a1 [v1]) (e2 : (Sh.int .i64).rd (old W) W a2 [v2]) :
    Calls Try.prog 5 #[v0, v1, v2] W fun e w' => e = .returned (.bool true) ∧ Below W.heap.size W w' :=
  Fnc.law (fha_fn a0 a1 a2) (RdTs.slice enc_i64s e0 (RdTs.int e1 (RdTs.int e2 RdTs.nil')))
end Go.Proofs.Ytanmcjkpdkmhfaa
