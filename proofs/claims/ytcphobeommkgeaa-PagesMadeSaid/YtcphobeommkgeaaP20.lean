/- Pages: their bytes. -/
import Derived.Test.YtcphobeommkgeaaC4
import Derived.Test.YtcphobeommkgeaaC5
namespace Go.Proofs.Ytcphobeommkgeaa
open Go Go.RowKit Rdn Rdn.Dp
set_option linter.unusedVariables false
set_option linter.unusedSimpArgs false
theorem m_nums_ok : compF Try.prog 56 = some (29, Qr ([Qp 4 (.mov (.c (.nilS)))])
 (.seq (Qr ([Qm 8 1, Qn 9 8, Qp 10 (.mov (Qi 0))])
 (.block 0 (.loop (Qr ([Qb 11 .lss 10 9])
 (.seq (.cond (.t 11) (.skip) (.exit 0))
 (.seq (.block 1 (Qr ([Qx 12 1 8 10, Ql 13 1 12, Qm 6 13])
 (Qr ([Qp 14 (.mov (Qi 0))])
 (.block 2 (.loop (Qr ([Qk 15 .lss 14 8])
 (.seq (.cond (.t 15) (.skip) (.exit 2))
 (.seq (.block 3 (Qr ([Qm 16 14, Qm 7 16])
 (.reg [Qm 17 0, Qm 18 6, Qp 19 (.conv .u64 (.t 18)), Qm 20 7, Qp 21 (.bin 0 .mul (Qi 8) (.t 20)), Qb 22 .shr 19 21, Qp 23 (.conv .u8 (.t 22)), Qw 24 (.buildS 5 1 (.int .u8 0) 1 [(0, (.t 23))]), Qw 25 (.app 5 1 1 (.t 17) (.t 24)), Qm 0 25])))
 (.reg [Qk 26 .add 14 1, Qm 14 26])))))))))
 (.reg [Qk 27 .add 10 1, Qm 10 27])))))))
 (Qr ([Qm 28 0, Qm 4 28])
 (.ret))), [.mov (.t 4)]) := by kernel_rfl
theorem m_plistb_ok : compF Try.prog 55 = some (33, Qr ([Qp 4 (.mov (.c (.nilS)))])
 (Qr ([Qm 7 0, Qm 8 1, Qn 9 8, Qw 10 (.buildS 3 1 (.int .i64 0) 1 [(0, (.t 9))]), Qq 11 56 [(.t 7), (.t 10)], Qm 0 11])
 (.seq (Qr ([Qm 12 1, Qn 13 12, Qp 14 (.mov (Qi 0))])
 (.block 0 (.loop (Qr ([Qb 15 .lss 14 13])
 (.seq (.cond (.t 15) (.skip) (.exit 0))
 (.seq (.block 1 (Qr ([Qx 16 4 12 14, QL 17 4 16, Qw 6 (.alloc 84 (.agg [.int .u8 0, .int .u16 0, .int .i64 0, .int .i64 0])), Qs 4 6 17])
 (.reg [Qm 18 0, Qf 19 0 0 6, Ql 20 1 19, Qp 21 (.conv .i64 (.t 20)), Qf 22 1 1 6, Ql 23 1 22, Qp 24 (.conv .i64 (.t 23)), Qf 25 2 2 6, Ql 26 1 25, Qf 27 3 3 6, Ql 28 1 27, Qw 29 (.buildS 3 1 (.int .i64 0) 4 [(0, (.t 21)), (1, (.t 24)), (2, (.t 26)), (3, (.t 28))]), Qq 30 56 [(.t 18), (.t 29)], Qm 0 30])))
 (.reg [Qk 31 .add 14 1, Qm 14 31])))))))
 (Qr ([Qm 32 0, Qm 4 32])
 (.ret)))), [.mov (.t 4)]) := by kernel_rfl
theorem m_znum_ok : compF Try.prog 105 = some (23, Qr ([Qp 4 (.mov (.c (.nilS)))])
 (Qr ([Qm 7 1, Qp 8 (.conv .u64 (.t 7)), Qm 5 8])
 (.seq (Qr ([Qp 6 (.mov (Qi 0))])
 (.block 0 (.loop (.seq (Qr ([Qm 9 6, Qk 10 .lss 9 8])
 (.cond (.t 10) (.skip) (.exit 0)))
 (.seq (.block 1 (.reg [Qm 13 0, Qm 14 5, Qm 15 6, Qp 16 (.bin 0 .mul (Qi 8) (.t 15)), Qp 17 (.conv .u64 (.t 16)), Qb 18 .shr 14 17, Qp 19 (.conv .u8 (.t 18)), Qw 20 (.buildS 5 1 (.int .u8 0) 1 [(0, (.t 19))]), Qw 21 (.app 5 1 1 (.t 13) (.t 20)), Qm 0 21]))
 (.reg [Qm 11 6, Qk 12 .add 11 1, Qm 6 12]))))))
 (Qr ([Qm 22 0, Qm 4 22])
 (.ret)))), [.mov (.t 4)]) := by kernel_rfl
theorem m_zcells_ok : compF Try.prog 104 = some (44, Qr ([Qp 4 (.mov (.c (.nilS)))])
 (Qr ([Qm 6 0, Qm 7 1, Qn 8 7, Qq 9 105 [(.t 6), (.t 8)], Qm 0 9])
 (.seq (Qr ([Qp 5 (.mov (Qi 0))])
 (.block 0 (.loop (.seq (Qr ([Qm 10 5, Qm 11 1, Qn 12 11, Qb 13 .lss 10 12])
 (.cond (.t 13) (.skip) (.exit 0)))
 (.seq (.block 1 (.dreg [Qm 16 0, Qm 17 1, Qm 18 5, Qx 19 4 17 18, Qf 20 0 0 19, Ql 21 1 20, Qp 22 (.conv .i64 (.t 21)), Qq 23 105 [(.t 16), (.t 22)], Qm 24 1, Qm 25 5, Qx 26 4 24 25, Qf 27 1 1 26, Ql 28 1 27, Qp 29 (.conv .i64 (.t 28)), Qq 30 105 [(.t 23), (.t 29)], Qm 31 1, Qm 32 5, Qx 33 4 31 32, Qf 34 2 2 33, Ql 35 1 34, Qq 36 105 [(.t 30), (.t 35)], Qm 37 1, Qm 38 5, Qx 39 4 37 38, Qf 40 3 3 39, Ql 41 1 40, Qq 42 105 [(.t 36), (.t 41)], Qm 0 42] [[], [], [], [1, 2], [1, 2, 3], [1, 2, 3, 4], [1, 2, 3, 4, 5], [0, 1, 2, 3, 4, 5, 6], [], [], [8, 9], [8, 9, 10], [8, 9, 10, 11], [8, 9, 10, 11, 12], [0, 1, 2, 3, 4, 5, 6, 7, 8, 9, 10, 11, 12, 13], [], [], [15, 16], [15, 16, 17], [15, 16, 17, 18], [0, 1, 2, 3, 4, 5, 6, 7, 8, 9, 10, 11, 12, 13, 14, 15, 16, 17, 18, 19], [], [], [21, 22], [21, 22, 23], [21, 22, 23, 24], [0, 1, 2, 3, 4, 5, 6, 7, 8, 9, 10, 11, 12, 13, 14, 15, 16, 17, 18, 19, 20, 21, 22, 23, 24, 25], [0, 1, 2, 3, 4, 5, 6, 7, 8, 9, 10, 11, 12, 13, 14, 15, 16, 17, 18, 19, 20, 21, 22, 23, 24, 25, 26]]))
 (.reg [Qm 14 5, Qk 15 .add 14 1, Qm 5 15]))))))
 (Qr ([Qm 43 0, Qm 4 43])
 (.ret)))), [.mov (.t 4)]) := by kernel_rfl
/-- The bytes of a number. -/
def nb (n : Int) (i : Nat) : Int := (n % 18446744073709551616).fdiv (2 ^ (8 * (i : Int)).toNat) % 256
def num8 (n : Int) : List Int := (List.range 8).map (nb n)
theorem num8_len (n : Int) : (num8 n).length = 8 := by simp [num8]
theorem num8_take (n : Int) (k : Nat) (hk : k < 8) : List.take k (List.map (V.int IntKind.u8) (num8 n)) ++ [V.int IntKind.u8 ((n % 18446744073709551616).fdiv (2 ^ (8 * (k : Int)).toNat) % 256)] = List.take (k + 1) (List.map (V.int IntKind.u8) (num8 n)) := by
  rw [List.take_add_one]
  have : (List.map (V.int IntKind.u8) (num8 n))[k]? = some (V.int IntKind.u8 (nb n k)) := by
    simp [num8, List.getElem?_range hk]
  rw [this]
  rfl
def nums (l : List Int) : List Int := l.flatMap num8
theorem nums_len (l : List Int) : (nums l).length = 8 * l.length := by
  induction l with
  | nil => rfl
  | cons x l ih => simp only [nums, List.flatMap_cons, List.length_append, num8_len, List.length_cons] at ih ⊢; omega
theorem nums_take (l : List Int) (k : Nat) (hk : k < l.length) : nums (l.take (k + 1)) = nums (l.take k) ++ num8 l[k]! := by
  rw [List.take_add_one, List.getElem?_eq_getElem hk, getElem!_pos l k hk]
  simp only [nums, Option.toList_some, List.flatMap_append, List.flatMap_cons, List.flatMap_nil, List.append_nil]
theorem nums_nil : nums [] = [] := rfl
set_option maxHeartbeats 4000000 in
theorem znum_fn (b : List Int) (n : Int) (hb : b.length ≤ 1000000000) : FncA Try.prog 105 5 1 (u8s b) [.int .i64 n] (· = u8s (b ++ num8 n)) := by
  refine zgA m_znum_ok fun W S v0 => ?_
  refine ev_loopK [5] (fun p : {p : Nat // p ≤ 8} => [(0, .own 0 p.1), (6, .int .i64 p.1)]) (fun p => [⟨.rows true 5, true, p.1, .arr 1 (u8s (b ++ (num8 n).take p.1))⟩]) (fun p => 8 - p.1) (⟨0, by simp⟩) 1 (by simp only [go_sem]; rfl) ?_ (by first | rfl | (simp only [go_sem]; done)) (by simp) (by first | rfl | (simp only [go_sem]; done)) (by first | rfl | (simp only [go_sem]; done)) (by first | rfl | (simp only [go_sem]; done)) ?_
  · (simp only [go_sem]; (try simp []); done)
  intro J hJ
  rintro ⟨k, hk0⟩
  by_cases hlt : k < 8
  · have hs := num8_take n k hlt
    refine zst ?_
    exact zn1 (hJ _ (⟨k + 1, hlt⟩) (by first | omega | (dsimp only; omega) | (simp; omega))) hs
  · obtain rfl : k = 8 := by omega
    have ht : (num8 n).take 8 = num8 n := List.take_of_length_le (by simp [num8_len])
    dsimp only
    rw [ht]
    refine zst ?_
    exact zra m_znum_ok
set_option maxHeartbeats 4000000 in
theorem nums_fn (b l : List Int) (hb : b.length + 8 * l.length ≤ 1000000000) : FncA Try.prog 56 5 1 (u8s b) [.sl false 1 (i64s l)] (· = u8s (b ++ nums l)) := by
  refine zgA m_nums_ok fun W S v0 => ?_
  refine ev_loopK [8, 9] (fun p : {p : Nat // p ≤ l.length} => [(0, .own 0 (8 * p.1)), (10, .int .i64 p.1)]) (fun p => [⟨.rows true 5, true, 8 * p.1, .arr 1 (u8s (b ++ nums (l.take p.1)))⟩]) (fun p => l.length - p.1) (⟨0, by simp⟩) 1 (by simp only [go_sem]; rfl) ?_ (by first | rfl | (simp only [go_sem]; done) | (simp only [go_sem]; simp [nums_nil]; done)) (by simp) (by first | rfl | (simp only [go_sem]; done)) (by first | rfl | (simp only [go_sem]; done)) (by first | rfl | (simp only [go_sem]; done) | (simp only [nums_nil]; (try simp only [go_sem]); first | done | rfl)) ?_
  · (simp only [go_sem]; (try simp [nums_nil]); done)
  intro J hJ
  rintro ⟨p, hp0⟩
  by_cases hlt : p < l.length
  · have hlen := nums_len (l.take p)
    rw [List.length_take, Nat.min_eq_left hp0] at hlen
    have hJ0 := hJ
    refine zst ?_
    refine ev_loopK [6, 8, 9, 10] (fun q : {q : Nat // q ≤ 8} => [(0, .own 0 (8 * p + q.1)), (14, .int .i64 q.1)]) (fun q => [⟨.rows true 5, true, 8 * p + q.1, .arr 1 (u8s (b ++ nums (l.take p) ++ (num8 l[p]!).take q.1))⟩]) (fun q => 8 - q.1) (⟨0, by simp⟩) 1 (by simp only [go_sem]; rfl) ?_ (by first | rfl | (simp only [go_sem]; done)) (by simp) (by first | rfl | (simp only [go_sem]; done)) (by first | rfl | (simp only [go_sem]; done)) (by first | rfl | (simp only [go_sem]; done)) ?_
    · (simp only [go_sem]; (try simp []); done)
    intro J hJ
    rintro ⟨k, hk0⟩
    by_cases hl2 : k < 8
    · have hs := num8_take (l[p]?.getD 0) k hl2
      have hg : 8 * p + k + 1 = 8 * p + (k + 1) := by omega
      refine zst ?_
      exact zn1 (hJ _ (⟨k + 1, hl2⟩) (by first | omega | (dsimp only; omega) | (simp; omega))) (And.intro hs (hg))
    · obtain rfl : k = 8 := by omega
      have hJ := hJ0
      have ht : (num8 l[p]!).take 8 = num8 l[p]! := List.take_of_length_le (by simp [num8_len])
      have hn := nums_take l p hlt
      dsimp only
      rw [ht]
      refine zst ?_
      have hg : 8 * p + 8 = 8 * (p + 1) := by omega
      exact zn1 (hJ _ (⟨p + 1, hlt⟩) (by first | omega | (dsimp only; omega) | (simp; omega))) (And.intro hn (hg))
  · obtain rfl : p = l.length := by omega
    have ht : l.take l.length = l := List.take_of_length_le (by omega)
    dsimp only
    rw [ht]
    refine zst ?_
    exact zra m_nums_ok
/-- The bytes of a cell, and of cells. -/
def canB (c : Canon) : List Int := num8 c.tag ++ num8 c.val ++ num8 c.region ++ num8 c.offset
def cansB (l : List Canon) : List Int := l.flatMap canB
def celB (l : List Canon) : List Int := num8 l.length ++ cansB l
theorem canB_len (c : Canon) : (canB c).length = 32 := by simp [canB, num8_len]
theorem cansB_len (l : List Canon) : (cansB l).length = 32 * l.length := by
  induction l with
  | nil => rfl
  | cons x l ih => simp only [cansB, List.flatMap_cons, List.length_append, canB_len, List.length_cons] at ih ⊢; omega
theorem cansB_take (l : List Canon) (k : Nat) (hk : k < l.length) : cansB (l.take (k + 1)) = cansB (l.take k) ++ canB l[k]! := by
  rw [List.take_add_one, List.getElem?_eq_getElem hk, getElem!_pos l k hk]
  simp only [cansB, Option.toList_some, List.flatMap_append, List.flatMap_cons, List.flatMap_nil, List.append_nil]
theorem cansB_nil : cansB [] = [] := rfl
theorem nums1 (a : Int) : nums [a] = num8 a := by simp [nums]
theorem nums4 (c : Canon) : nums [c.tag, c.val, c.region, c.offset] = canB c := by simp [nums, canB]
set_option maxHeartbeats 4000000 in
theorem plistb_fn (b : List Int) (l : List Canon) (hb : b.length + 8 + 32 * l.length ≤ 1000000000) : FncA Try.prog 55 5 1 (u8s b) [.sl false 4 (l.map canonV)] (· = u8s (b ++ celB l)) := by
  refine FncA.wf fun hw => ?_
  simp only [V.wfs, V.wf, wfs_map, List.length_map] at hw
  have hm := hw.1.1
  clear hw
  have hz : b ++ nums [(l.length : Int)] ++ cansB l = b ++ celB l := by rw [nums1, celB, List.append_assoc]
  refine zgA m_plistb_ok fun W S v0 => ?_
  refine Rdn.Dp.zce (nums_fn b [(l.length : Int)] (by simp; omega)) ?_
  refine ev_loopK [12, 13] (fun p : {p : Nat // p ≤ l.length} => [(0, .own 0 (1 + p.1)), (14, .int .i64 p.1)]) (fun p => [⟨.rows true 5, true, 1 + p.1, .arr 1 (u8s (b ++ nums [(l.length : Int)] ++ cansB (l.take p.1)))⟩]) (fun p => l.length - p.1) (⟨0, by simp⟩) 1 (by simp only [go_sem]; rfl) ?_ (by first | rfl | (simp only [go_sem]; done) | (simp only [go_sem]; simp [cansB_nil]; done)) (by simp) (by first | rfl | (simp only [go_sem]; done)) (by first | rfl | (simp only [go_sem]; done)) (by first | rfl | (simp only [go_sem]; done) | (simp only [cansB_nil]; (try simp only [go_sem]); first | done | rfl)) ?_
  · (simp only [go_sem]; (try simp [cansB_nil]); done)
  intro J hJ
  rintro ⟨p, hp0⟩
  by_cases hlt : p < l.length
  · have hlen := cansB_len (l.take p)
    rw [List.length_take, Nat.min_eq_left hp0] at hlen
    have hn := nums_len [(l.length : Int)]
    simp only [List.length_cons, List.length_nil] at hn
    have hc := hm _ (mem_at hlt)
    have ht := inK_u8' hc.1
    have hv := inK_u16' hc.2.1
    clear hc
    have hs : (b ++ nums [(l.length : Int)] ++ cansB (l.take p)).length + 8 * [(l[p]!).tag, (l[p]!).val, (l[p]!).region, (l[p]!).offset].length ≤ 1000000000 := by
      simp only [List.length_append, List.length_cons, List.length_nil]; omega
    refine zst ?_
    refine Rdn.Dp.zce (nums_fn (b ++ nums [(l.length : Int)] ++ cansB (l.take p)) [(l[p]!).tag, (l[p]!).val, (l[p]!).region, (l[p]!).offset] hs) ?_
    have hn := cansB_take l p hlt
    have hg : 1 + p + 1 = 1 + (p + 1) := by omega
    refine ev_next 1 (hJ _ (⟨p + 1, hlt⟩) (by first | omega | (dsimp only; omega) | (simp; omega))) rfl (by simp) ?_ (by first | rfl | (simp only [go_sem]; done)) (by first | rfl | (simp only [go_sem]; done) | (simp only [hn, nums4, hg]; (try simp only [go_sem]); first | done | rfl)) ?_
    · (first | rfl | (simp only [go_sem]; done) | (simp only [go_sem]; simp only [hn, nums4, hg]; done) | (simp only [hn, nums4, hg]; done) | (simp only [go_sem]; simp [hn, nums4, hg]; done) | (simp [hn, nums4, hg]; done))
    · (simp only [go_sem]; (repeat' (refine And.intro ?_ ?_)) <;> first | exact trivial | with_reducible rfl | (simp only [hn, nums4, hg]; done) | (simp only [hn, nums4, hg]; with_reducible rfl) | (simp [hn, nums4, hg]; done) | (simp [hn, nums4, hg]; omega) | (simp only [hn, nums4, hg]; rfl) | skip)
  · obtain rfl : p = l.length := by omega
    have ht : l.take l.length = l := List.take_of_length_le (by omega)
    dsimp only
    rw [ht, hz]
    refine zst ?_
    exact zra m_plistb_ok
set_option maxHeartbeats 4000000 in
theorem zcells_fn (b : List Int) (l : List Canon) (hb : b.length + 8 + 32 * l.length ≤ 1000000000) : FncA Try.prog 104 5 1 (u8s b) [.sl false 4 (l.map canonV)] (· = u8s (b ++ celB l)) := by
  refine FncA.wf fun hw => ?_
  simp only [V.wfs, V.wf, wfs_map, List.length_map] at hw
  have hm := hw.1.1
  clear hw
  have hz : b ++ num8 (l.length : Int) ++ cansB l = b ++ celB l := by rw [celB, List.append_assoc]
  refine zgA m_zcells_ok fun W S v0 => ?_
  refine Rdn.Dp.zca (znum_fn b (l.length : Int) (by omega)) ?_
  refine ev_loopK [1] (fun p : {p : Nat // p ≤ l.length} => [(0, .own 0 (1 + 4 * p.1)), (5, .int .i64 p.1)]) (fun p => [⟨.rows true 5, true, 1 + 4 * p.1, .arr 1 (u8s (b ++ num8 (l.length : Int) ++ cansB (l.take p.1)))⟩]) (fun p => l.length - p.1) (⟨0, by simp⟩) 1 (by simp only [go_sem]; rfl) ?_ (by first | rfl | (simp only [go_sem]; done) | (simp only [go_sem]; simp [cansB_nil]; done)) (by simp) (by first | rfl | (simp only [go_sem]; done)) (by first | rfl | (simp only [go_sem]; done)) (by first | rfl | (simp only [go_sem]; done) | (simp only [cansB_nil]; (try simp only [go_sem]); first | done | rfl)) ?_
  · (simp only [go_sem]; (try simp [cansB_nil]); done)
  intro J hJ
  rintro ⟨p, hp0⟩
  by_cases hlt : p < l.length
  · have hlen := cansB_len (l.take p)
    rw [List.length_take, Nat.min_eq_left hp0] at hlen
    have hn := num8_len (l.length : Int)
    have hc := hm _ (mem_at hlt)
    have ht := inK_u8' hc.1
    have hv := inK_u16' hc.2.1
    clear hc
    have h0 : (b ++ num8 (l.length : Int) ++ cansB (l.take p)).length = b.length + 8 + 32 * p := by
      simp only [List.length_append]; omega
    have h1 := num8_len (l[p]!).tag
    have h2 := num8_len (l[p]!).val
    have h3 := num8_len (l[p]!).region
    refine zst ?_
    refine Rdn.Dp.zca (znum_fn (b ++ num8 (l.length : Int) ++ cansB (l.take p)) (l[p]!).tag (by simp only [List.length_append]; omega)) ?_
    refine Rdn.Dp.zca (znum_fn (b ++ num8 (l.length : Int) ++ cansB (l.take p) ++ num8 (l[p]!).tag) (l[p]!).val (by simp only [List.length_append]; omega)) ?_
    refine Rdn.Dp.zca (znum_fn (b ++ num8 (l.length : Int) ++ cansB (l.take p) ++ num8 (l[p]!).tag ++ num8 (l[p]!).val) (l[p]!).region (by simp only [List.length_append]; omega)) ?_
    refine Rdn.Dp.zca (znum_fn (b ++ num8 (l.length : Int) ++ cansB (l.take p) ++ num8 (l[p]!).tag ++ num8 (l[p]!).val ++ num8 (l[p]!).region) (l[p]!).offset (by simp only [List.length_append]; omega)) ?_
    have hn := cansB_take l p hlt
    have hg : 1 + 4 * p + 1 + 1 + 1 + 1 = 1 + 4 * (p + 1) := by omega
    have hq : b ++ num8 (l.length : Int) ++ cansB (l.take p) ++ num8 (l[p]!).tag ++ num8 (l[p]!).val ++ num8 (l[p]!).region ++ num8 (l[p]!).offset = b ++ num8 (l.length : Int) ++ cansB (l.take (p + 1)) := by
      rw [hn, canB]; simp only [List.append_assoc]
    rw [hq]
    exact zn1 (hJ _ (⟨p + 1, hlt⟩) (by first | omega | (dsimp only; omega) | (simp; omega))) hg
  · obtain rfl : p = l.length := by omega
    have ht : l.take l.length = l := List.take_of_length_le (by omega)
    dsimp only
    rw [ht, hz]
    refine zst ?_
    exact zra m_zcells_ok
end Go.Proofs.Ytcphobeommkgeaa
