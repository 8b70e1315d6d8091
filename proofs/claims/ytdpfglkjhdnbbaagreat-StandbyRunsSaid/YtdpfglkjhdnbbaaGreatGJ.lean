/- J1, J2, J3, J4, J5, J6, J7, in one text. -/
import Derived.Test.YtdpfglkjhdnbbaaGreatC4
import Derived.Lib.AppendZerosOnto
import Derived.Test.YtdpfglkjhdnbbaaGreatC5
namespace Rdn.Dp
open Go Go.RowKit Rdn
set_option linter.unusedVariables false
theorem Fnc.ofRow {P : Program} {f : FuncId} {xs : List V} {e s : Nat} (hs0 : 0 < s) (args : List Value) (ha : ∀ S w vs, RdTs (argS S) w xs vs → vs = args)
    (h : ∀ w, Calls P f args.toArray w fun ex w' => ∃ v, ex = .returned v ∧ Below w.heap.size w w' ∧ v.oneCell' = true ∧ w'.ownsRow w.heap.size e s v 0 []) : Fnc P f xs (fun y obs => y = .own 0 0 ∧ obs = [⟨.row e, true, 0, .arr s []⟩]) := by
  intro w S vs hS hvs
  obtain rfl := ha S w vs hvs
  refine (h w).mono ?_
  rintro ex w' ⟨v, rfl, hb, hv, hrow⟩
  refine ⟨.own 0 0, _, v, ⟨rfl, rfl⟩, rfl, ⟨fun _ => False, fun b => w.heap.size ≤ b, [(0, v)]⟩, fun b hb => False.elim hb, fun o ho => by simp at ho; subst ho; exact ⟨rfl, rfl⟩, rfl, rfl, fun i => ?_, rfl, fun r o hr => ?_, fun r r' o o' g g' u u' b hne k1 k2 => ?_, fun b hb => False.elim hb, fun b => Iff.rfl, fun b hb => False.elim hb, Keep.of_below hb⟩
  · cases i with
    | zero =>
      show RdT _ _ (.own 0 0) v
      simp only [RdT, RdV]
      refine ⟨v, rfl, hv, by simp, fun gc u hu => ?_⟩
      simp at hu
      exact ⟨by omega, fun _ => hu.2⟩
    | succ i =>
      have e : slotV [(0, V.own 0 0)] (i + 1) = .junk := by simp [slotV]
      show RdT _ _ (slotV [(0, V.own 0 0)] (i + 1)) _
      rw [e]
      simp only [RdT]
  · cases r with
    | zero =>
      simp at hr
      subst hr
      exact ⟨v, rfl, s, [], [], rfl, rfl, (fun x hx => by cases hx), hs0, by simp, hrow, by simp [RdL], fun b hb hB => hB⟩
    | succ r => simp at hr
  · exfalso
    have h1 := (List.getElem?_eq_some_iff.1 k1).1
    have h2 := (List.getElem?_eq_some_iff.1 k2).1
    simp at h1 h2
    omega
end Rdn.Dp
namespace Go.Proofs.YtdpfglkjhdnbbaaGreat
open Go Go.RowKit Rdn Rdn.Dp
set_option linter.unusedVariables false
set_option maxHeartbeats 2000000 in
theorem grow_nil (w : World) : Calls Tryz.prog 107 #[.slice none 0 0, .int .i64 0] w fun e w' => e = .returned (.slice none 0 0) ∧ w' = w := by
  go_enter Tryz.func107, Tryz.ntmps107
  go_wp2
  go_ret
  exact ⟨rfl, rfl⟩
theorem info_u8c : (Tryz.prog.info? 5).map (fun i => (i.zero, i.size, i.bytes)) = some (some (.int .u8 0), 1, 1) := by kernel_rfl
theorem under_u8s : Tryz.prog.underlying 40 = some (.slice 5) := by kernel_rfl
theorem under_i64 : Tryz.prog.underlying 3 = some (.int .i64) := by kernel_rfl
set_option maxHeartbeats 4000000 in
theorem grow_pos (n : Nat) (h0 : 0 < n) (hn : n ≤ 140737488351232) (w : World) : Calls Tryz.prog 107 #[.slice none 0 0, .int .i64 n] w fun e w' => ∃ c xs, n ≤ c ∧ c ≤ maxLen ∧ xs.size = c ∧ e = .returned (.slice (some ⟨w.heap.size, 0, none⟩) 0 c) ∧ w' = w.drew.alloc (.cells xs 5) := by
  obtain ⟨i0, hi, hz0, hz1, hz2⟩ := info_parts info_u8c
  have h1 : ¬ ((n : Int) < 0) := by omega
  have h2 : wrap64 ((0 : Int) - 0) = 0 := by unfold wrap64; omega
  have h3 : wrap64 ((n : Int) - 0) = (n : Int) := by unfold wrap64; omega
  have h4 : (n : Int) > 0 := by omega
  have hold : (Builtin.firstCells i0.size 0 (.slice none 0 0)).run Tryz.prog w.drew = .ok ([] : List Value).toArray w.drew := run_firstCells_none w.drew i0.size 0 0 0
  have hrz : ∀ ty, (Builtin.append_ #[40, 3] ty #[.slice none 0 0, .int .i64 n]).run Tryz.prog w =
      .ok (.slice (some ⟨w.heap.size, 0, none⟩) n (grownCap w n 0 5)) (w.drew.alloc (.cells (([] : List Value).toArray ++ Builtin.zeroCells (Value.int .u8 0).cells n ++ Builtin.zeroCells (Value.int .u8 0).cells (grownCap w n 0 5 - n)) 5)) := by
    intro ty
    have h := Lib.run_append_grow_zeros w 40 3 ty 5 i0 (.int .u8 0) .i64 .i64 under_u8s under_i64 hi hz0 none 0 0 [] hold n h0 (by omega) (by omega) (by omega) (by rw [hz2]; omega)
      (by rw [Nat.zero_add]; exact growslice_fits h0 (by rw [hz2]; omega))
    rw [Nat.zero_add] at h
    exact h
  have hG := grownCap_ge w n 0 5
  have hG63 := grownCap_le_maxLen w n 0 5 (by unfold maxLen; omega)
  obtain ⟨G, hGe⟩ : ∃ G, G = grownCap w n 0 5 := ⟨_, rfl⟩
  rw [← hGe] at hrz hG hG63
  have hG64 : G ≤ 9223372036854775807 := by unfold maxLen at hG63; omega
  have hsz : (([] : List Value).toArray ++ Builtin.zeroCells (Value.int .u8 0).cells n ++ Builtin.zeroCells (Value.int .u8 0).cells (G - n)).size = G := by
    simp [Builtin.zeroCells, Value.cells]
    omega
  generalize ([] : List Value).toArray ++ Builtin.zeroCells (Value.int .u8 0).cells n ++ Builtin.zeroCells (Value.int .u8 0).cells (G - n) = xs at hrz hsz
  clear hold hGe
  go_enter Tryz.func107, Tryz.ntmps107
  go_wp2_with (at_builtin; refine Lib.wpList_append_run _ rfl _ _ _ _ rfl _ _ rfl rfl _ _ (hrz _) ?_)
  all_goals (go_ret; first | exact ⟨G, hG, hG63, xs, hsz, rfl, rfl⟩ | exact ⟨G, hG, hG63, xs, hsz, rfl⟩)
theorem grow_fn (n : Nat) (hn : n ≤ 140737488351232) : Fnc Tryz.prog 107 [.nilS, .int .i64 n] (fun x obs => x = .own 0 0 ∧ obs = [⟨.row 5, true, 0, .arr 1 []⟩]) := by
  refine Fnc.ofRow (by decide) [.slice none 0 0, .int .i64 n] (fun S w vs h => ?_) fun w => ?_
  · simp only [RdTs, RdT, RdV] at h
    obtain ⟨v, ys, rfl, h1, v2, ys2, rfl, ⟨h2, _⟩, rfl⟩ := h
    simp only [List.cons.injEq, and_true] at h1 h2
    rw [h1, h2]
  · by_cases h0 : n = 0
    · subst h0
      refine (grow_nil w).mono ?_
      rintro e w' ⟨rfl, rfl⟩
      exact ⟨_, rfl, Below.refl _ _, rfl, World.ownsRow_nil _ _ _ _⟩
    · refine (grow_pos n (by omega) hn w).mono ?_
      rintro e w' ⟨c, xs, h1, h2, h3, rfl, rfl⟩
      refine ⟨_, rfl, (Below.refl _ _).drew.alloc (Nat.le_refl _) _, rfl, rfl, .inr ⟨w.heap.size, c, xs, rfl, Nat.le_refl _, ?_, Nat.zero_le _, h2, by omega, by simp⟩⟩
      exact Array.getElem?_push_size (xs := w.drew.heap)
end Go.Proofs.YtdpfglkjhdnbbaaGreat
namespace Go.Proofs.YtdpfglkjhdnbbaaGreat
open Go Go.RowKit Rdn Rdn.Dp
set_option linter.unusedVariables false
set_option linter.unusedSimpArgs false
theorem m_add_ok : compF Tryz.prog 97 = some (20, Qr ([Qp 4 (.mov (.c (.int .u32 0)))])
 (.seq (Qr ([Qm 7 1, Qn 8 7, Qp 9 (.mov (Qi 0))])
 (.block 0 (.loop (Qr ([Qb 10 .lss 9 8])
 (.seq (.cond (.t 10) (.skip) (.exit 0))
 (.seq (.block 1 (Qr ([Qx 11 1 7 9, Ql 12 1 11, Qm 6 12])
 (.reg [Qm 13 0, Qm 14 6, Qp 15 (.conv .u32 (.t 14)), Qb 16 .xor 13 15, Qp 17 (.bin 0 .mul (.t 16) (.c (.int .u32 16777619))), Qm 0 17])))
 (.reg [Qk 18 .add 9 1, Qm 9 18])))))))
 (Qr ([Qm 19 0, Qm 4 19])
 (.ret))), [.mov (.t 4)]) := by kernel_rfl
theorem m_rAdd_ok : compF Tryz.prog 83 = some (21, Qr ([Qp 4 (.mov (.c (.int .u32 0)))])
 (.seq (Qr ([Qp 5 (.mov (Qi 0))])
 (.block 0 (.loop (.seq (Qr ([Qm 6 5, Qm 7 1, Qn 8 7, Qb 9 .lss 6 8])
 (.cond (.t 9) (.skip) (.exit 0)))
 (.seq (.block 1 (.reg [Qm 12 0, Qm 13 1, Qm 14 5, Qx 15 1 13 14, Ql 16 1 15, Qp 17 (.conv .u32 (.t 16)), Qb 18 .xor 12 17, Qp 19 (.bin 0 .mul (.t 18) (.c (.int .u32 16777619))), Qm 0 19]))
 (.reg [Qm 10 5, Qk 11 .add 10 1, Qm 5 11]))))))
 (Qr ([Qm 20 0, Qm 4 20])
 (.ret))), [.mov (.t 4)]) := by kernel_rfl
theorem m_concat_ok : compF Tryz.prog 98 = some (36, Qr ([Qp 2 (.mov (.c (.nilS)))])
 (Qr ([Qp 3 (.mov (Qi 0))])
 (.seq (Qr ([Qm 9 0, Qn 10 9, Qp 11 (.mov (Qi 0))])
 (.block 0 (.loop (Qr ([Qb 12 .lss 11 10])
 (.seq (.cond (.t 12) (.skip) (.exit 0))
 (.seq (.block 1 (Qr ([Qx 13 1 9 11, Ql 14 1 13, Qm 5 14])
 (Qr ([Qm 15 3, Qm 16 5, Qn 17 16, Qb 18 .add 15 17, Qm 3 18])
 (Qr ([Qm 19 3, Qk 20 .lss 19 0])
 (.cond (.t 20) (.reg [Qp 21 (.bad), ⟨none, none, (.p (.bad))⟩]) (.skip))))))
 (.reg [Qk 22 .add 11 1, Qm 11 22])))))))
 (Qr ([Qm 23 3, Qq 24 107 [(.c (.nilS)), (.t 23)], Qm 6 24])
 (.seq (Qr ([Qm 25 0, Qn 26 25, Qp 27 (.mov (Qi 0))])
 (.block 2 (.loop (Qr ([Qb 28 .lss 27 26])
 (.seq (.cond (.t 28) (.skip) (.exit 2))
 (.seq (.block 3 (Qr ([Qx 29 1 25 27, Ql 30 1 29, Qm 8 30])
 (.reg [Qm 31 6, Qm 32 8, Qw 33 (.app 5 1 1 (.t 31) (.t 32)), Qm 6 33])))
 (.reg [Qk 34 .add 27 1, Qm 27 34])))))))
 (Qr ([Qm 35 6, Qm 2 35])
 (.ret)))))), [.mov (.t 2)]) := by kernel_rfl
theorem m_join_ok : compF Tryz.prog 67 = some (5, Qr ([Qp 2 (.mov (.c (.nilS)))])
 (Qr ([Qm 3 0, Qq 4 98 [(.t 3)], Qm 2 4])
 (.ret)), [.mov (.t 2)]) := by kernel_rfl
theorem m_low_ok : compF Tryz.prog 96 = some (15, Qr ([Qp 2 (.mov (.c (.nilS)))])
 (Qr ([Qm 3 0, Qp 4 (.conv .u8 (.t 3)), Qm 5 0, Qp 6 (.bin 0 .shr (.t 5) (.c (.int .u64 8))), Qp 7 (.conv .u8 (.t 6)), Qm 8 0, Qp 9 (.bin 0 .shr (.t 8) (.c (.int .u64 16))), Qp 10 (.conv .u8 (.t 9)), Qm 11 0, Qp 12 (.bin 0 .shr (.t 11) (.c (.int .u64 24))), Qp 13 (.conv .u8 (.t 12)), Qw 14 (.buildS 5 1 (.int .u8 0) 4 [(0, (.t 4)), (1, (.t 7)), (2, (.t 10)), (3, (.t 13))]), Qm 2 14])
 (.ret)), [.mov (.t 2)]) := by kernel_rfl
theorem m_bclone_ok : compF Tryz.prog 109 = some (8, Qr ([Qp 2 (.mov (.c (.nilS)))])
 (.seq (Qr ([Qm 3 0, Qp 4 (.bin 2 .eql (.t 3) (.c (.nilS)))])
 (.cond (.t 4) (Qr ([Qp 2 (.mov (.c (.nilS)))])
 (.ret)) (.skip)))
 (Qr ([Qw 5 (.buildS 5 1 (.int .u8 0) 0 []), Qm 6 0, Qw 7 (.app 5 1 1 (.t 5) (.t 6)), Qm 2 7])
 (.ret))), [.mov (.t 2)]) := by kernel_rfl
theorem m_bequal_ok : compF Tryz.prog 110 = some (10, Qr ([Qc 4 (.bool false)])
 (Qr ([Qm 5 0, Qp 6 (.b2s (.t 5)), Qm 7 1, Qp 8 (.b2s (.t 7)), Qb 9 .eql 6 8, Qm 4 9])
 (.ret)), [.mov (.t 4)]) := by kernel_rfl
def fstep (s b : Int) : Int := bxor .u32 s b * 16777619 % 4294967296
def dadd (s : Int) (l : List Int) : Int := l.foldl fstep s
theorem dadd_snoc (s : Int) (l : List Int) (b : Int) : dadd s (l ++ [b]) = fstep (dadd s l) b := by simp [dadd]
theorem dadd_lt {s : Int} (h0 : 0 ≤ s) (h1 : s < 4294967296) : ∀ l : List Int, 0 ≤ dadd s l ∧ dadd s l < 4294967296 := by
  intro l
  rcases List.eq_nil_or_concat l with rfl | ⟨m, b, rfl⟩
  · exact ⟨h0, h1⟩
  · rw [List.concat_eq_append, dadd_snoc, fstep]; omega
set_option maxHeartbeats 4000000 in
theorem add_fn (s : Int) (l : List Int) : Fnc Tryz.prog 97 [.int .u32 s, .sl false 1 (u8s l)] (fun x obs => x = .int .u32 (dadd s l) ∧ obs = []) := by
  refine Fnc.wf fun hw => ?_
  simp only [V.wfs, V.wf, wfs_map, List.length_map] at hw
  obtain ⟨hs, ⟨hl, hm⟩, _⟩ := hw
  refine zgo m_add_ok fun W S => ?_
  refine ev_loopK [7, 8] (fun p : {p : Nat // p ≤ l.length} => [(0, .int .u32 (dadd s (l.take p.1))), (9, .int .i64 p.1)]) (fun _ => []) (fun p => l.length - p.1) (⟨0, by simp⟩) 0 (by simp only [go_sem]; rfl) ?_ (by first | rfl | (simp only [go_sem]; done) | (simp only [go_sem]; simp [dadd]; done)) (by simp) (by first | rfl | (simp only [go_sem]; done)) (by first | rfl | (simp only [go_sem]; done)) (by first | rfl | (simp only [go_sem]; done) | (simp only [dadd]; (try simp only [go_sem]); first | done | rfl)) ?_
  · (simp only [go_sem]; (try simp [dadd]); done)
  intro J hJ
  rintro ⟨k, hk0⟩
  by_cases hlt : k < l.length
  · have hx := inK_u8' (hl l[k]! (mem_at hlt))
    refine zst ?_
    refine ev_next 0 (hJ _ (⟨k + 1, hlt⟩) (by first | omega | (dsimp only; omega) | (simp; omega))) rfl (by simp) ?_ (by first | rfl | (simp only [go_sem]; done)) (by first | rfl | (simp only [go_sem]; done) | (simp only [take_snoc hlt, dadd_snoc, fstep]; (try simp only [go_sem]); first | done | rfl)) ?_
    · (first | rfl | (simp only [go_sem]; done) | (simp only [go_sem]; simp only [take_snoc hlt, dadd_snoc, fstep]; done) | (simp only [take_snoc hlt, dadd_snoc, fstep]; done) | (simp only [go_sem]; simp [take_snoc hlt, dadd_snoc, fstep]; done) | (simp [take_snoc hlt, dadd_snoc, fstep]; done))
    · (simp only [go_sem]; (repeat' (refine And.intro ?_ ?_)) <;> first | exact trivial | with_reducible rfl | (simp only [take_snoc hlt, dadd_snoc, fstep]; done) | (simp only [take_snoc hlt, dadd_snoc, fstep]; with_reducible rfl) | (simp [take_snoc hlt, dadd_snoc, fstep]; done) | (simp [take_snoc hlt, dadd_snoc, fstep]; omega) | (simp only [take_snoc hlt, dadd_snoc, fstep]; rfl) | skip)
  · obtain rfl : k = l.length := by omega
    refine zst ?_
    refine ret m_add_ok [] ?_; (first | (simp only [go_sem]; done) | (simp only [go_sem]; ((try dsimp only); (repeat' (refine And.intro ?_ ?_)) <;> first | with_reducible rfl | (simp only [go_sem]; done) | (simp only [go_sem]; rfl) | (simp only [go_sem, List.take_length]; done) | (simp only [List.take_length]; (try simp only [go_sem]); first | done | rfl) | (simp only [go_sem]; simp [List.take_length]; done) | (simp [List.take_length]; done) | rfl)))
set_option maxHeartbeats 4000000 in
theorem rAdd_fn (s : Int) (l : List Int) : Fnc Tryz.prog 83 [.int .u32 s, .sl false 1 (u8s l)] (fun x obs => x = .int .u32 (dadd s l) ∧ obs = []) := by
  refine Fnc.wf fun hw => ?_
  simp only [V.wfs, V.wf, wfs_map, List.length_map] at hw
  obtain ⟨hs, ⟨hl, hm⟩, _⟩ := hw
  refine zgo m_rAdd_ok fun W S => ?_
  refine ev_loopK [1] (fun p : {p : Nat // p ≤ l.length} => [(0, .int .u32 (dadd s (l.take p.1))), (5, .int .i64 p.1)]) (fun _ => []) (fun p => l.length - p.1) (⟨0, by simp⟩) 0 (by simp only [go_sem]; rfl) ?_ (by first | rfl | (simp only [go_sem]; done) | (simp only [go_sem]; simp [dadd]; done)) (by simp) (by first | rfl | (simp only [go_sem]; done)) (by first | rfl | (simp only [go_sem]; done)) (by first | rfl | (simp only [go_sem]; done) | (simp only [dadd]; (try simp only [go_sem]); first | done | rfl)) ?_
  · (simp only [go_sem]; (try simp [dadd]); done)
  intro J hJ
  rintro ⟨k, hk0⟩
  by_cases hlt : k < l.length
  · have hx := inK_u8' (hl l[k]! (mem_at hlt))
    refine zst ?_
    refine ev_next 0 (hJ _ (⟨k + 1, hlt⟩) (by first | omega | (dsimp only; omega) | (simp; omega))) rfl (by simp) ?_ (by first | rfl | (simp only [go_sem]; done)) (by first | rfl | (simp only [go_sem]; done) | (simp only [take_snoc hlt, dadd_snoc, fstep]; (try simp only [go_sem]); first | done | rfl)) ?_
    · (first | rfl | (simp only [go_sem]; done) | (simp only [go_sem]; simp only [take_snoc hlt, dadd_snoc, fstep]; done) | (simp only [take_snoc hlt, dadd_snoc, fstep]; done) | (simp only [go_sem]; simp [take_snoc hlt, dadd_snoc, fstep]; done) | (simp [take_snoc hlt, dadd_snoc, fstep]; done))
    · (simp only [go_sem]; (repeat' (refine And.intro ?_ ?_)) <;> first | exact trivial | with_reducible rfl | (simp only [take_snoc hlt, dadd_snoc, fstep]; done) | (simp only [take_snoc hlt, dadd_snoc, fstep]; with_reducible rfl) | (simp [take_snoc hlt, dadd_snoc, fstep]; done) | (simp [take_snoc hlt, dadd_snoc, fstep]; omega) | (simp only [take_snoc hlt, dadd_snoc, fstep]; rfl) | skip)
  · obtain rfl : k = l.length := by omega
    refine zst ?_
    refine ret m_rAdd_ok [] ?_; (first | (simp only [go_sem]; done) | (simp only [go_sem]; ((try dsimp only); (repeat' (refine And.intro ?_ ?_)) <;> first | with_reducible rfl | (simp only [go_sem]; done) | (simp only [go_sem]; rfl) | (simp only [go_sem, List.take_length]; done) | (simp only [List.take_length]; (try simp only [go_sem]); first | done | rfl) | (simp only [go_sem]; simp [List.take_length]; done) | (simp [List.take_length]; done) | rfl)))
abbrev bsV (l : List Int) : V := .sl false 1 (u8s l)
theorem flat_snoc {l : List (List Int)} {k : Nat} (h : k < l.length) : (l.take (k + 1)).flatten = (l.take k).flatten ++ l[k]! := by
  rw [take_snoc h, List.flatten_append]; simp
theorem flat_le (l : List (List Int)) (k : Nat) : (l.take k).flatten.length ≤ l.flatten.length := by
  have : l.flatten = (l.take k).flatten ++ (l.drop k).flatten := by rw [← List.flatten_append, List.take_append_drop]
  rw [this, List.length_append]; omega
set_option maxHeartbeats 4000000 in
theorem concat_fn (l : List (List Int)) (hb : l.flatten.length ≤ 140737488351232) : Fnc Tryz.prog 98 [.sl false 1 (l.map bsV)] (fun x obs => x = .own 0 0 ∧ obs = [⟨.row 5, true, 0, .arr 1 (u8s l.flatten)⟩]) := by
  refine Fnc.wf fun hw => ?_
  simp only [V.wfs, V.wf, List.length_map] at hw
  have hm := hw.1.2
  clear hw
  refine zgo m_concat_ok fun W S => ?_
  refine ev_loopK [0, 9, 10] (fun p : {p : Nat // p ≤ l.length} => [(3, .int .i64 ((l.take p.1).flatten.length : Nat)), (11, .int .i64 p.1)]) (fun _ => []) (fun p => l.length - p.1) (⟨0, by simp⟩) 0 (by simp only [go_sem]; rfl) ?_ (by first | rfl | (simp only [go_sem]; done)) (by simp) (by first | rfl | (simp only [go_sem]; done)) (by first | rfl | (simp only [go_sem]; done)) (by first | rfl | (simp only [go_sem]; done)) ?_
  · (simp only [go_sem]; (try simp []); done)
  intro J hJ
  rintro ⟨k, hk0⟩
  by_cases hlt : k < l.length
  · have h1 := flat_le l k
    have h2 := flat_le l (k + 1)
    have h3 := flat_snoc hlt
    rw [h3, List.length_append] at h2
    have h4 : ((l.take (k + 1)).flatten.length : Int) = ((l.take k).flatten.length : Int) + (l[k]!.length : Int) := by rw [h3, List.length_append]; omega
    refine zst ?_
    exact zn0 (hJ _ (⟨k + 1, hlt⟩) (by first | omega | (dsimp only; omega) | (simp; omega))) h4
  · obtain rfl : k = l.length := by omega
    have hg := grow_fn l.flatten.length hb
    refine zst ?_
    refine zcx (hg) ?_
    refine ev_loopK [25, 26] (fun p : {p : Nat // p ≤ l.length} => [(6, .own 0 p.1), (27, .int .i64 p.1)]) (fun p => [⟨.row 5, true, p.1, .arr 1 (u8s (l.take p.1).flatten)⟩]) (fun p => l.length - p.1) (⟨0, by simp⟩) 1 (by simp only [go_sem]; rfl) ?_ (by first | rfl | (simp only [go_sem]; done)) (by simp) (by first | rfl | (simp only [go_sem]; done)) (by first | rfl | (simp only [go_sem]; done)) (by first | rfl | (simp only [go_sem]; done)) ?_
    · (simp only [go_sem]; (try simp []); done)
    intro J hJ
    rintro ⟨k, hk0⟩
    by_cases hlt : k < l.length
    · have h1 := flat_le l (k + 1)
      have h3 := flat_snoc hlt
      rw [h3, List.length_append] at h1
      refine zst ?_
      exact zn1 (hJ _ (⟨k + 1, hlt⟩) (by first | omega | (dsimp only; omega) | (simp; omega))) h3
    · obtain rfl : k = l.length := by omega
      refine zst ?_
      refine ret m_concat_ok [0] ?_; (first | (simp only [go_sem]; done) | (simp only [go_sem]; ((try dsimp only); (repeat' (refine And.intro ?_ ?_)) <;> first | with_reducible rfl | (simp only [go_sem]; done) | (simp only [go_sem]; rfl) | (simp only [go_sem, List.take_length]; done) | (simp only [List.take_length]; (try simp only [go_sem]); first | done | rfl) | (simp only [go_sem]; simp [List.take_length]; done) | (simp [List.take_length]; done) | rfl)))
set_option maxHeartbeats 4000000 in
theorem join_fn (l : List (List Int)) (hb : l.flatten.length ≤ 140737488351232) : Fnc Tryz.prog 67 [.sl false 1 (l.map bsV)] (fun x obs => x = .sl true 1 (u8s l.flatten) ∧ obs = []) := by
  refine zgo m_join_ok fun W S => ?_
  refine zcx (concat_fn l hb) ?_
  exact zrt m_join_ok
def le4 (n : Int) : List Int := [n % 256, n / 256 % 256, n / 65536 % 256, n / 16777216]
set_option maxHeartbeats 4000000 in
theorem low_fn (n : Int) : Fnc Tryz.prog 96 [.int .u32 n] (fun x obs => x = .sl true 1 (u8s (le4 n)) ∧ obs = []) := by
  refine Fnc.wf fun hw => ?_
  simp only [V.wfs, V.wf] at hw
  have hn := inK_u32' hw.1
  refine zgo m_low_ok fun W S => ?_
  refine ret m_low_ok [] ?_; (first | (simp only [go_sem]; done) | (simp only [go_sem]; ((try dsimp only); (repeat' (refine And.intro ?_ ?_)) <;> first | with_reducible rfl | (simp only [go_sem]; done) | (simp only [go_sem]; rfl) | (simp only [go_sem, le4]; done) | (simp only [le4]; (try simp only [go_sem]); first | done | rfl) | (simp only [go_sem]; simp [le4]; done) | (simp [le4]; done) | rfl)))
set_option maxHeartbeats 4000000 in
theorem bclone_fn (l : List Int) (hb : l.length ≤ 140737488351232) : Fnc Tryz.prog 109 [.sl false 1 (l.map (V.int .u8))] (fun x obs => x = .sl true 1 (l.map (V.int .u8)) ∧ obs = []) := by
  refine Fnc.intro m_bclone_ok (by simp) fun W S => ?_
  simp only [ents, Nat.zero_add, Nat.reduceAdd, Qm, Qc, Ql, QL, Qf, Qs, Qb, Qk, QB, Qn, Qe, Qx, Qt, Qu, Q0, Q1, Qp, Qw, Qq, Qr, Qi]
  refine zsu ?_
  refine zs1 ?_
  refine zsu ?_
  refine ev_reg ?_
  refine evr_p rfl trivial ?_
  refine evr_nilq rfl rfl fun b hb0 => ?_
  cases b with
  | false =>
    simp only [aopP, X.ev, slotV, AS.put, if_true]
    refine zst ?_
    exact zrt m_bclone_ok
  | true =>
    have hl : l = [] := by
      cases l with
      | nil => rfl
      | cons a l => exact absurd (hb0 (by simp)) (by simp)
    subst hl
    simp only [aopP, X.ev, slotV, AS.put, if_true]
    refine zsu ?_
    refine zs1 ?_
    refine zsu ?_
    refine ev_nil2 2 true 1 rfl ?_
    exact zrt m_bclone_ok
theorem numV_u8s (a : List Int) : (u8s a).map numV = a := by
  rw [List.map_map]
  exact List.map_id'' (fun x => rfl) a
theorem ba_loop (bs : ByteArray) : ∀ (m i : Nat) (r : List UInt8), bs.size - i = m → ByteArray.toList.loop bs i r = r.reverse ++ bs.data.toList.drop i := by
  intro m
  induction m with
  | zero =>
    intro i r h
    rw [ByteArray.toList.loop, if_neg (by omega), List.drop_of_length_le (by simp only [Array.length_toList]; exact Nat.sub_eq_zero_iff_le.1 h)]
    simp
  | succ m ih =>
    intro i r h
    have hi : i < bs.data.toList.length := by simp only [Array.length_toList]; show i < bs.size; omega
    rw [ByteArray.toList.loop, if_pos (by show i < bs.size; omega), ih (i + 1) _ (by omega), List.drop_eq_getElem_cons hi]
    have e : bs.get! i = bs.data.toList[i] := by
      show bs.data[i]! = _
      rw [getElem!_pos bs.data i (by simpa using hi)]
      simp
    rw [e, List.reverse_cons, List.append_assoc]
    rfl
theorem strNums_list (a : List Int) : (strOfNums a).toList = a.map fun n => UInt8.ofNat n.toNat := by
  unfold ByteArray.toList
  rw [ba_loop _ _ 0 [] rfl]
  simp [strOfNums]
theorem str_beq {a b : List Int} (ha : ∀ x ∈ a, inK .u8 x) (hb : ∀ x ∈ b, inK .u8 x) : ((strOfNums a).toList == (strOfNums b).toList) = decide (a = b) := by
  rw [strNums_list, strNums_list]
  have key : ∀ (a b : List Int), (∀ x ∈ a, inK .u8 x) → (∀ x ∈ b, inK .u8 x) → (a.map (fun n => UInt8.ofNat n.toNat) = b.map fun n => UInt8.ofNat n.toNat) → a = b := by
    intro a
    induction a with
    | nil => intro b _ _ h; cases b with
      | nil => rfl
      | cons y b => simp at h
    | cons x a ih => intro b h1 h2 h; cases b with
      | nil => simp at h
      | cons y b =>
        simp only [List.map_cons, List.cons.injEq] at h
        have e := ih b (fun z hz => h1 z (by simp [hz])) (fun z hz => h2 z (by simp [hz])) h.2
        have hx := inK_u8' (h1 x (by simp))
        have hy := inK_u8' (h2 y (by simp))
        have := congrArg UInt8.toNat h.1
        simp only [UInt8.toNat_ofNat'] at this
        rw [e]
        congr 1
        omega
  by_cases h : a = b
  · subst h; simp
  · have : ¬ (a.map (fun n => UInt8.ofNat n.toNat) = b.map fun n => UInt8.ofNat n.toNat) := fun h' => h (key a b ha hb h')
    rw [decF h]
    simpa using this
attribute [local go_sem] numV_u8s
set_option maxHeartbeats 4000000 in
theorem bequal_fn (a b : List Int) : Fnc Tryz.prog 110 [.sl false 1 (u8s a), .sl false 1 (u8s b)] (fun x obs => x = .bool (decide (a = b)) ∧ obs = []) := by
  refine Fnc.wf fun hw => ?_
  simp only [V.wfs, V.wf, wfs_map, List.length_map] at hw
  have e := str_beq hw.1.1 hw.2.1.1
  rw [← e]
  refine zgo m_bequal_ok fun W S => ?_
  exact zrt m_bequal_ok
end Go.Proofs.YtdpfglkjhdnbbaaGreat
namespace Go.Proofs.YtdpfglkjhdnbbaaGreat
open Go Go.RowKit Rdn Rdn.Dp
set_option linter.unusedVariables false
set_option linter.unusedSimpArgs false
theorem m_wchk_ok : compF Tryz.prog 95 = some (35, Qr ([Qw 1 (.box 42 (.t 0)), Qp 2 (.mov (Qi 0))])
 (.seq (Qr ([Qf 3 0 0 1, Ql 4 1 3, Qk 5 .lss 4 1, Qm 6 5, Q0 7 6 (.fieldA 0 0 (.t 1)), Q0 8 6 (.load false 1 (.t 7)), Q0 9 6 (.bin 0 .gtr (.t 8) (Qi 6)), Qt 10 6 9, Qm 11 10, Q0 12 11 (.fieldA 2 2 (.t 1)), Q0 13 11 (.load false 1 (.t 12)), Q0 14 11 (.bin 0 .lss (.t 13) (Qi 0)), Qt 15 11 14, Qm 16 15, Q0 17 16 (.fieldA 2 2 (.t 1)), Q0 18 16 (.load false 1 (.t 17)), Q0 19 16 (.bin 0 .gtr (.t 18) (Qi 255)), Qt 20 16 19, Qm 21 20, Q0 22 21 (.fieldA 1 1 (.t 1)), Q0 23 21 (.load false 1 (.t 22)), Q0 24 21 (.bin 0 .lss (.t 23) (Qi 0)), Qt 25 21 24, Qm 26 25, Q0 27 26 (.fieldA 1 1 (.t 1)), Q0 28 26 (.load false 1 (.t 27)), Q0 29 26 (.bin 0 .gtr (.t 28) (Qi 4294967295)), Qt 30 26 29])
 (.cond (.t 30) (Qr ([Qp 2 (.mov (Qi 1))])
 (.ret)) (.skip)))
 (.seq (Qr ([Qf 31 3 3 1, Ql 32 1 31, Qn 33 32, Qk 34 .gtr 33 4000])
 (.cond (.t 34) (Qr ([Qp 2 (.mov (Qi 3))])
 (.ret)) (.skip)))
 (Qr ([Qp 2 (.mov (Qi 0))])
 (.ret)))), [.mov (.t 2)]) := by kernel_rfl
theorem m_rchk_ok : compF Tryz.prog 82 = some (35, Qr ([Qw 1 (.box 42 (.t 0)), Qp 2 (.mov (Qi 0))])
 (.seq (Qr ([Qf 3 0 0 1, Ql 4 1 3, Qk 5 .lss 4 1, Qm 6 5, Q0 7 6 (.fieldA 0 0 (.t 1)), Q0 8 6 (.load false 1 (.t 7)), Q0 9 6 (.bin 0 .gtr (.t 8) (Qi 6)), Qt 10 6 9, Qm 11 10, Q0 12 11 (.fieldA 2 2 (.t 1)), Q0 13 11 (.load false 1 (.t 12)), Q0 14 11 (.bin 0 .lss (.t 13) (Qi 0)), Qt 15 11 14, Qm 16 15, Q0 17 16 (.fieldA 2 2 (.t 1)), Q0 18 16 (.load false 1 (.t 17)), Q0 19 16 (.bin 0 .gtr (.t 18) (Qi 255)), Qt 20 16 19, Qm 21 20, Q0 22 21 (.fieldA 1 1 (.t 1)), Q0 23 21 (.load false 1 (.t 22)), Q0 24 21 (.bin 0 .lss (.t 23) (Qi 0)), Qt 25 21 24, Qm 26 25, Q0 27 26 (.fieldA 1 1 (.t 1)), Q0 28 26 (.load false 1 (.t 27)), Q0 29 26 (.bin 0 .geq (.t 28) (Qi 4294967296)), Qt 30 26 29])
 (.cond (.t 30) (Qr ([Qp 2 (.mov (Qi 1))])
 (.ret)) (.skip)))
 (.seq (Qr ([Qf 31 3 3 1, Ql 32 1 31, Qn 33 32, Qk 34 .gtr 33 4000])
 (.cond (.t 34) (Qr ([Qp 2 (.mov (Qi 3))])
 (.ret)) (.skip)))
 (Qr ([Qp 2 (.mov (Qi 0))])
 (.ret)))), [.mov (.t 2)]) := by kernel_rfl
theorem m_wenc_ok : compF Tryz.prog 56 = some (42, Qr ([Qw 1 (.box 42 (.t 0)), Qp 2 (.mov (.c (.nilS))), Qp 3 (.mov (Qi 0))])
 (.seq (Qr ([QL 7 4 1, Qq 8 95 [(.t 7)], Qm 4 8])
 (Qr ([Qm 9 4, Qk 10 .neq 9 0])
 (.cond (.t 10) (Qr ([Qm 11 4, Qp 2 (.mov (.c (.nilS))), Qm 3 11])
 (.ret)) (.skip))))
 (Qr ([Qf 12 3 3 1, Ql 13 1 12, Qn 14 13, Qp 15 (.bin 0 .add (Qi 6) (.t 14)), Qm 5 15])
 (.seq (.dreg [Qm 16 5, Qp 17 (.conv .u8 (.t 16)), Qm 18 5, Qp 19 (.bin 0 .shr (.t 18) (.c (.int .u64 8))), Qp 20 (.conv .u8 (.t 19)), Qf 21 0 0 1, Ql 22 1 21, Qp 23 (.conv .u8 (.t 22)), Qf 24 2 2 1, Ql 25 1 24, Qp 26 (.conv .u8 (.t 25)), Qw 27 (.buildS 5 1 (.int .u8 0) 4 [(0, (.t 17)), (1, (.t 20)), (2, (.t 23)), (3, (.t 26))]), Qf 28 1 1 1, Ql 29 1 28, Qp 30 (.conv .u32 (.t 29)), Qq 31 96 [(.t 30)], Qf 32 3 3 1, Ql 33 1 32, Qw 34 (.buildS 40 1 (.nilS) 3 [(0, (.t 27)), (1, (.t 31)), (2, (.t 33))]), Qq 35 67 [(.t 34)], Qm 6 35] [[], [0], [], [2], [2, 3], [], [5], [5, 6], [], [8], [8, 9], [0, 1, 2, 3, 4, 5, 6, 7, 8, 9, 10], [], [12], [12, 13], [12, 13, 14], [], [16], [0, 1, 2, 3, 4, 5, 6, 7, 8, 9, 10, 11, 12, 13, 14, 15, 16, 17], [0, 1, 2, 3, 4, 5, 6, 7, 8, 9, 10, 11, 12, 13, 14, 15, 16, 17, 18], [0, 1, 2, 3, 4, 5, 6, 7, 8, 9, 10, 11, 12, 13, 14, 15, 16, 17, 18, 19]])
 (Qr ([Qm 36 6, Qm 37 6, Qq 38 97 [(.c (.int .u32 2166136261)), (.t 37)], Qq 39 96 [(.t 38)], Qw 40 (.buildS 40 1 (.nilS) 2 [(0, (.t 36)), (1, (.t 39))]), Qq 41 67 [(.t 40)], Qm 2 41, Qp 3 (.mov (Qi 0))])
 (.ret))))), [.mov (.t 2), .mov (.t 3)]) := by kernel_rfl
theorem m_renc_ok : compF Tryz.prog 44 = some (64, Qr ([Qw 1 (.box 42 (.t 0)), Qp 2 (.mov (.c (.nilS))), Qp 3 (.mov (Qi 0))])
 (.seq (Qr ([QL 8 4 1, Qq 9 82 [(.t 8)], Qm 4 9])
 (Qr ([Qm 10 4, Qk 11 .neq 10 0])
 (.cond (.t 11) (Qr ([Qm 12 4, Qp 2 (.mov (.c (.nilS))), Qm 3 12])
 (.ret)) (.skip))))
 (Qr ([Qf 13 3 3 1, Ql 14 1 13, Qn 15 14, Qp 16 (.bin 0 .add (Qi 6) (.t 15)), Qm 5 16])
 (Qr ([Qm 17 5, Qp 18 (.conv .u8 (.t 17)), Qm 19 5, Qp 20 (.bin 0 .shr (.t 19) (.c (.int .u64 8))), Qp 21 (.conv .u8 (.t 20)), Qf 22 0 0 1, Ql 23 1 22, Qp 24 (.conv .u8 (.t 23)), Qf 25 2 2 1, Ql 26 1 25, Qp 27 (.conv .u8 (.t 26)), Qf 28 1 1 1, Ql 29 1 28, Qp 30 (.conv .u8 (.t 29)), Qf 31 1 1 1, Ql 32 1 31, Qp 33 (.bin 0 .shr (.t 32) (.c (.int .u64 8))), Qp 34 (.conv .u8 (.t 33)), Qf 35 1 1 1, Ql 36 1 35, Qp 37 (.bin 0 .shr (.t 36) (.c (.int .u64 16))), Qp 38 (.conv .u8 (.t 37)), Qf 39 1 1 1, Ql 40 1 39, Qp 41 (.bin 0 .shr (.t 40) (.c (.int .u64 24))), Qp 42 (.conv .u8 (.t 41)), Qw 43 (.buildS 5 1 (.int .u8 0) 8 [(0, (.t 18)), (1, (.t 21)), (2, (.t 24)), (3, (.t 27)), (4, (.t 30)), (5, (.t 34)), (6, (.t 38)), (7, (.t 42))]), Qm 6 43])
 (Qr ([Qm 44 6, Qf 45 3 3 1, Ql 46 1 45, Qw 47 (.app 5 1 1 (.t 44) (.t 46)), Qm 6 47])
 (Qr ([Qm 48 6, Qq 49 83 [(.c (.int .u32 2166136261)), (.t 48)], Qm 7 49])
 (Qr ([Qm 50 6, Qm 51 7, Qp 52 (.conv .u8 (.t 51)), Qm 53 7, Qp 54 (.bin 0 .shr (.t 53) (.c (.int .u64 8))), Qp 55 (.conv .u8 (.t 54)), Qm 56 7, Qp 57 (.bin 0 .shr (.t 56) (.c (.int .u64 16))), Qp 58 (.conv .u8 (.t 57)), Qm 59 7, Qp 60 (.bin 0 .shr (.t 59) (.c (.int .u64 24))), Qp 61 (.conv .u8 (.t 60)), Qw 62 (.buildS 5 1 (.int .u8 0) 4 [(0, (.t 52)), (1, (.t 55)), (2, (.t 58)), (3, (.t 61))]), Qw 63 (.app 5 1 1 (.t 50) (.t 62)), Qm 2 63, Qp 3 (.mov (Qi 0))])
 (.ret))))))), [.mov (.t 2), .mov (.t 3)]) := by kernel_rfl
def chkN (n : Note) : Int := if n.kind < 1 ∨ n.kind > 6 ∨ n.state < 0 ∨ n.state > 255 ∨ n.number < 0 ∨ n.number > 4294967295 then 1 else if n.bytes.length > 4000 then 3 else 0
set_option maxHeartbeats 4000000 in
theorem wchk_fn (n : Note) : Fnc Tryz.prog 95 [.agg (noteL false n)] (fun x obs => x = .int .i64 (chkN n) ∧ obs = []) := by
  refine Fnc.wf fun hw => ?_
  simp only [noteL, V.wfs, V.wf, List.length_map] at hw
  have hm := hw.1.2.2.2.1.2
  clear hw
  by_cases c0 : n.kind < 1
  · rw [show chkN n = 1 by rw [chkN, if_pos (by omega)]]
    refine zgo m_wchk_ok fun W S => ?_
    exact zrt m_wchk_ok
  by_cases c1 : n.kind > 6
  · rw [show chkN n = 1 by rw [chkN, if_pos (by omega)]]
    refine zgo m_wchk_ok fun W S => ?_
    exact zrt m_wchk_ok
  by_cases c2 : n.state < 0
  · rw [show chkN n = 1 by rw [chkN, if_pos (by omega)]]
    refine zgo m_wchk_ok fun W S => ?_
    exact zrt m_wchk_ok
  by_cases c3 : n.state > 255
  · rw [show chkN n = 1 by rw [chkN, if_pos (by omega)]]
    refine zgo m_wchk_ok fun W S => ?_
    exact zrt m_wchk_ok
  by_cases c4 : n.number < 0
  · rw [show chkN n = 1 by rw [chkN, if_pos (by omega)]]
    refine zgo m_wchk_ok fun W S => ?_
    exact zrt m_wchk_ok
  by_cases c5 : n.number > 4294967295
  · rw [show chkN n = 1 by rw [chkN, if_pos (by omega)]]
    refine zgo m_wchk_ok fun W S => ?_
    exact zrt m_wchk_ok
  by_cases c7 : n.bytes.length > 4000
  · rw [show chkN n = 3 by rw [chkN, if_neg (by omega), if_pos c7]]
    refine zgo m_wchk_ok fun W S => ?_
    exact zrt m_wchk_ok
  · rw [show chkN n = 0 by rw [chkN, if_neg (by omega), if_neg c7]]
    refine zgo m_wchk_ok fun W S => ?_
    exact zrt m_wchk_ok
set_option maxHeartbeats 4000000 in
theorem rchk_fn (n : Note) : Fnc Tryz.prog 82 [.agg (noteL false n)] (fun x obs => x = .int .i64 (chkN n) ∧ obs = []) := by
  refine Fnc.wf fun hw => ?_
  simp only [noteL, V.wfs, V.wf, List.length_map] at hw
  have hm := hw.1.2.2.2.1.2
  clear hw
  by_cases c0 : n.kind < 1
  · rw [show chkN n = 1 by rw [chkN, if_pos (by omega)]]
    refine zgo m_rchk_ok fun W S => ?_
    exact zrt m_rchk_ok
  by_cases c1 : n.kind > 6
  · rw [show chkN n = 1 by rw [chkN, if_pos (by omega)]]
    refine zgo m_rchk_ok fun W S => ?_
    exact zrt m_rchk_ok
  by_cases c2 : n.state < 0
  · rw [show chkN n = 1 by rw [chkN, if_pos (by omega)]]
    refine zgo m_rchk_ok fun W S => ?_
    exact zrt m_rchk_ok
  by_cases c3 : n.state > 255
  · rw [show chkN n = 1 by rw [chkN, if_pos (by omega)]]
    refine zgo m_rchk_ok fun W S => ?_
    exact zrt m_rchk_ok
  by_cases c4 : n.number < 0
  · rw [show chkN n = 1 by rw [chkN, if_pos (by omega)]]
    refine zgo m_rchk_ok fun W S => ?_
    exact zrt m_rchk_ok
  by_cases c5 : n.number > 4294967295
  · rw [show chkN n = 1 by rw [chkN, if_pos (by omega)]]
    refine zgo m_rchk_ok fun W S => ?_
    exact zrt m_rchk_ok
  by_cases c7 : n.bytes.length > 4000
  · rw [show chkN n = 3 by rw [chkN, if_neg (by omega), if_pos c7]]
    refine zgo m_rchk_ok fun W S => ?_
    exact zrt m_rchk_ok
  · rw [show chkN n = 0 by rw [chkN, if_neg (by omega), if_neg c7]]
    refine zgo m_rchk_ok fun W S => ?_
    exact zrt m_rchk_ok
def core (n : Note) : List Int := [(6 + (n.bytes.length : Int)) % 256, (6 + (n.bytes.length : Int)) / 256, n.kind, n.state] ++ (le4 n.number ++ n.bytes)
def encB (n : Note) : List Int := core n ++ le4 (dadd 2166136261 (core n))
def sEnc (n : Note) : List Int × Int := if chkN n = 0 then (encB n, 0) else ([], chkN n)
theorem core_len (n : Note) : (core n).length = 8 + n.bytes.length := by simp [core, le4]; omega
theorem core_flat (n : Note) : [[(6 + (n.bytes.length : Int)) % 256, (6 + (n.bytes.length : Int)) / 256, n.kind, n.state], le4 n.number, n.bytes].flatten = core n := by simp [core]
theorem enc_flat (n : Note) : [core n, le4 (dadd 2166136261 (core n))].flatten = encB n := by simp [encB]
theorem encB_len (n : Note) : (encB n).length = 12 + n.bytes.length := by simp [encB, core_len, le4]; omega
theorem chkN_0 {n : Note} (h : chkN n = 0) : 1 ≤ n.kind ∧ n.kind ≤ 6 ∧ 0 ≤ n.state ∧ n.state ≤ 255 ∧ 0 ≤ n.number ∧ n.number ≤ 4294967295 ∧ n.bytes.length ≤ 4000 := by
  unfold chkN at h
  split at h
  · omega
  · split at h <;> omega
theorem core_u8s (n : Note) : u8s (core n) = .int .u8 ((6 + (n.bytes.length : Int)) % 256) :: .int .u8 ((6 + (n.bytes.length : Int)) / 256) :: .int .u8 n.kind :: .int .u8 n.state :: .int .u8 (n.number % 256) :: .int .u8 (n.number / 256 % 256) :: .int .u8 (n.number / 65536 % 256) :: .int .u8 (n.number / 16777216) :: u8s n.bytes := by simp [core, le4]
theorem encB_u8s (n : Note) : u8s (encB n) = u8s (core n) ++ [.int .u8 (dadd 2166136261 (core n) % 256), .int .u8 (dadd 2166136261 (core n) / 256 % 256), .int .u8 (dadd 2166136261 (core n) / 65536 % 256), .int .u8 (dadd 2166136261 (core n) / 16777216)] := by simp [encB, le4]
attribute [local irreducible] core le4 dadd encB
set_option maxHeartbeats 4000000 in
theorem wenc_fn (n : Note) : Fnc Tryz.prog 56 [.agg (noteL false n)] (fun x obs => x = .tup [.sl true 1 (u8s (sEnc n).1), .int .i64 (sEnc n).2] ∧ obs = []) := by
  have hC := wchk_fn n
  by_cases ok : chkN n = 0
  · rw [ok] at hC
    obtain ⟨h1, h2, h3, h4, h5, h6, h7⟩ := chkN_0 ok
    rw [show sEnc n = (encB n, 0) by rw [sEnc, if_pos ok]]
    have j1 := join_fn [[(6 + (n.bytes.length : Int)) % 256, (6 + (n.bytes.length : Int)) / 256, n.kind, n.state], le4 n.number, n.bytes] (by rw [core_flat, core_len]; omega)
    rw [core_flat] at j1
    have j2 := join_fn [core n, le4 (dadd 2166136261 (core n))] (by rw [enc_flat, encB_len]; omega)
    rw [enc_flat] at j2
    have s1 := dadd_lt (s := 2166136261) (by omega) (by omega) (core n)
    refine zgo m_wenc_ok fun W S => ?_
    refine zcd (hC) ?_
    refine zcd (low_fn n.number) ?_
    (first | refine callD (j1) ?_ | refine callDw (j1) ?_); simp only [go_sem, bsV]
    refine zst ?_
    refine zcd (add_fn 2166136261 (core n)) ?_
    refine zcd (low_fn (dadd 2166136261 (core n))) ?_
    (first | refine callD (j2) ?_ | refine callDw (j2) ?_); simp only [go_sem, bsV]
    refine zst ?_
    exact zrt m_wenc_ok
  · rw [show sEnc n = ([], chkN n) by rw [sEnc, if_neg ok]]
    refine zgo m_wenc_ok fun W S => ?_
    refine zcd (hC) ?_
    refine ev_nil2 2 true 1 rfl ?_
    exact zrt m_wenc_ok
set_option maxHeartbeats 4000000 in
theorem renc_fn (n : Note) : Fnc Tryz.prog 44 [.agg (noteL false n)] (fun x obs => x = .tup [.sl true 1 (u8s (sEnc n).1), .int .i64 (sEnc n).2] ∧ obs = []) := by
  have hC := rchk_fn n
  by_cases ok : chkN n = 0
  · rw [ok] at hC
    obtain ⟨h1, h2, h3, h4, h5, h6, h7⟩ := chkN_0 ok
    rw [show sEnc n = (encB n, 0) by rw [sEnc, if_pos ok]]
    have s1 := dadd_lt (s := 2166136261) (by omega) (by omega) (core n)
    refine zgo m_renc_ok fun W S => ?_
    refine zcd (hC) ?_
    (first | refine callD (rAdd_fn 2166136261 (core n)) ?_ | refine callDw (rAdd_fn 2166136261 (core n)) ?_); simp only [go_sem, core_u8s]
    refine zst ?_
    refine ret m_renc_ok [] ?_; (first | (simp only [go_sem]; done) | (simp only [go_sem]; ((try dsimp only); (repeat' (refine And.intro ?_ ?_)) <;> first | with_reducible rfl | (simp only [go_sem]; done) | (simp only [go_sem]; rfl) | (simp only [go_sem, encB_u8s, core_u8s]; done) | (simp only [encB_u8s, core_u8s]; (try simp only [go_sem]); first | done | rfl) | (simp only [go_sem]; simp [encB_u8s, core_u8s]; done) | (simp [encB_u8s, core_u8s]; done) | rfl)))
  · rw [show sEnc n = ([], chkN n) by rw [sEnc, if_neg ok]]
    refine zgo m_renc_ok fun W S => ?_
    refine zcd (hC) ?_
    refine ev_nil2 2 true 1 rfl ?_
    exact zrt m_renc_ok
theorem le4_bytes {n : Int} (h0 : 0 ≤ n) (h1 : n < 4294967296) : ∀ x ∈ le4 n, inK .u8 x := by
  intro x hx
  have hx : x = n % 256 ∨ x = n / 256 % 256 ∨ x = n / 65536 % 256 ∨ x = n / 16777216 := by
    unfold le4 at hx
    simpa using hx
  have e : inK .u8 x ↔ 0 ≤ x ∧ x ≤ 255 := by unfold inK; simp [IntKind.min, IntKind.max, IntKind.signed, IntKind.bits]
  rw [e]
  omega
theorem sEnc_bytes {n : Note} (hb : ∀ x ∈ n.bytes, inK .u8 x) : ∀ x ∈ (sEnc n).1, inK .u8 x := by
  have e : ∀ x : Int, inK .u8 x ↔ 0 ≤ x ∧ x ≤ 255 := by intro x; unfold inK; simp [IntKind.min, IntKind.max, IntKind.signed, IntKind.bits]
  unfold sEnc
  split
  · rename_i ok
    obtain ⟨h1, h2, h3, h4, h5, h6, h7⟩ := chkN_0 ok
    have s1 := dadd_lt (s := 2166136261) (by omega) (by omega) (core n)
    intro x hx
    have hx : x ∈ encB n := hx
    unfold encB at hx
    rcases List.mem_append.1 hx with hx | hx
    · unfold core at hx
      rcases List.mem_append.1 hx with hx | hx
      · rw [e]
        simp only [List.mem_cons, List.not_mem_nil, or_false] at hx
        omega
      · rcases List.mem_append.1 hx with hx | hx
        · exact le4_bytes h5 (by omega) x hx
        · exact hb x hx
    · exact le4_bytes s1.1 s1.2 x hx
  · intro x hx; cases hx
end Go.Proofs.YtdpfglkjhdnbbaaGreat
namespace Go.Proofs.YtdpfglkjhdnbbaaGreat
open Go Go.RowKit Rdn Rdn.Dp
set_option linter.unusedVariables false
set_option linter.unusedSimpArgs false
theorem m_num_ok : compF Tryz.prog 108 = some (25, Qr ([Qp 2 (.mov (.c (.int .u32 0)))])
 (.seq (.dreg [Qm 3 0, Qp 4 (.idxA 1 (.t 3) (Qi 0)), Ql 5 1 4, Qp 6 (.conv .u32 (.t 5)), Qm 7 0, Qp 8 (.idxA 1 (.t 7) (Qi 1)), Ql 9 1 8, Qp 10 (.conv .u32 (.t 9)), Qp 11 (.bin 0 .shl (.t 10) (.c (.int .u64 8))), Qb 12 .or 6 11, Qm 13 0, Qp 14 (.idxA 1 (.t 13) (Qi 2)), Ql 15 1 14, Qp 16 (.conv .u32 (.t 15)), Qp 17 (.bin 0 .shl (.t 16) (.c (.int .u64 16))), Qb 18 .or 12 17, Qm 19 0, Qp 20 (.idxA 1 (.t 19) (Qi 3)), Ql 21 1 20, Qp 22 (.conv .u32 (.t 21)), Qp 23 (.bin 0 .shl (.t 22) (.c (.int .u64 24))), Qb 24 .or 18 23, Qm 2 24] [[], [0], [0, 1], [0, 1, 2], [], [4], [4, 5], [4, 5, 6], [4, 5, 6, 7], [0, 1, 2, 3, 4, 5, 6, 7, 8], [], [10], [10, 11], [10, 11, 12], [10, 11, 12, 13], [0, 1, 2, 3, 4, 5, 6, 7, 8, 9, 10, 11, 12, 13, 14], [], [16], [16, 17], [16, 17, 18], [16, 17, 18, 19], [0, 1, 2, 3, 4, 5, 6, 7, 8, 9, 10, 11, 12, 13, 14, 15, 16, 17, 18, 19, 20], [0, 1, 2, 3, 4, 5, 6, 7, 8, 9, 10, 11, 12, 13, 14, 15, 16, 17, 18, 19, 20, 21]])
 (.ret)), [.mov (.t 2)]) := by kernel_rfl
theorem bor_nat2 {k : IntKind} (hk : k = .u32 ∨ k = .i64) {a m : Nat} (ha : a < 4294967296) (hm : m < 4294967296) (e : a ||| m = a + m) (hs : a + m < 4294967296) : bor k (a : Int) (m : Int) = (a : Int) + (m : Int) := by
  have key : ∀ n : Nat, 32 ≤ n → (BitVec.ofInt n (a : Int) ||| BitVec.ofInt n (m : Int)).toNat = a + m := by
    intro n hn
    have hn' : 2 ^ 32 ≤ 2 ^ n := Nat.pow_le_pow_right (by omega) hn
    rw [BitVec.toNat_or, ofInt_nat (Int.natCast_nonneg _) (by exact_mod_cast (by omega : a < 2 ^ n)), ofInt_nat (Int.natCast_nonneg _) (by exact_mod_cast (by omega : m < 2 ^ n))]
    exact e
  rcases hk with rfl | rfl
  · show IntKind.u32.wrap ((BitVec.ofInt 32 _ ||| BitVec.ofInt 32 _).toNat : Int) = _
    rw [key 32 (by omega)]
    show ((a + m : Nat) : Int) % 4294967296 = _
    omega
  · show IntKind.i64.wrap ((BitVec.ofInt 64 _ ||| BitVec.ofInt 64 _).toNat : Int) = _
    rw [key 64 (by omega), wrapI64 (by omega) (by omega)]
    omega
theorem bor_sum {k : IntKind} (hk : k = .u32 ∨ k = .i64) (i P : Nat) (hi : i ≤ 24) (hP : 2 ^ i = P) {x y : Int} (h0 : 0 ≤ x) (h1 : x < P) (h2 : 0 ≤ y) (h3 : y < 256) : bor k x (y * P) = x + y * P := by
  obtain ⟨a, rfl⟩ := Int.eq_ofNat_of_zero_le h0
  obtain ⟨b, rfl⟩ := Int.eq_ofNat_of_zero_le h2
  have h1' : a < 2 ^ i := by rw [hP]; exact Int.ofNat_lt.1 h1
  have h3' : b < 256 := by omega
  have hpi : 2 ^ i ≤ 2 ^ 24 := Nat.pow_le_pow_right (by omega) hi
  have e : a ||| b * 2 ^ i = a + b * 2 ^ i := by
    rw [Nat.or_comm, ← Nat.shiftLeft_eq, ← Nat.shiftLeft_add_eq_or_of_lt h1', Nat.add_comm]
  rw [hP] at h1' hpi e
  have hb : b * P ≤ 255 * P := Nat.mul_le_mul_right _ (by omega)
  rw [show ((b : Int) * (P : Int)) = ((b * P : Nat) : Int) from (Int.natCast_mul b P).symm]
  generalize b * P = M at hb e
  exact bor_nat2 hk (by omega) (by omega) e (by omega)
def num4 (a b c d : Int) : Int := a + b * 256 + c * 65536 + d * 16777216
theorem num4_or {k : IntKind} (hk : k = .u32 ∨ k = .i64) {a b c d : Int} (ha : 0 ≤ a ∧ a ≤ 255) (hb : 0 ≤ b ∧ b ≤ 255) (hc : 0 ≤ c ∧ c ≤ 255) (hd : 0 ≤ d ∧ d ≤ 255) : bor k (bor k (bor k a (b * 256)) (c * 65536)) (d * 16777216) = num4 a b c d := by
  have e1 := bor_sum hk 8 256 (by omega) rfl ha.1 (by omega) hb.1 (by omega)
  have e2 := bor_sum hk 16 65536 (by omega) rfl (x := a + b * 256) (by omega) (by omega) hc.1 (by omega)
  have e3 := bor_sum hk 24 16777216 (by omega) rfl (x := a + b * 256 + c * 65536) (by omega) (by omega) hd.1 (by omega)
  have e1 : bor k a (b * 256) = a + b * 256 := e1
  have e2 : bor k (a + b * 256) (c * 65536) = a + b * 256 + c * 65536 := e2
  have e3 : bor k (a + b * 256 + c * 65536) (d * 16777216) = a + b * 256 + c * 65536 + d * 16777216 := e3
  rw [e1, e2, e3]
  rfl
theorem wfs_at {l : List Int} (h : ∀ x ∈ l, inK .u8 x) {k : Nat} (hk : k < l.length) : 0 ≤ l[k]! ∧ l[k]! ≤ 255 := inK_u8' (h _ (mem_at hk))
set_option maxHeartbeats 4000000 in
theorem num_fn (l : List Int) (hl : 4 ≤ l.length) : Fnc Tryz.prog 108 [.sl false 1 (u8s l)] (fun x obs => x = .int .u32 (num4 l[0]! l[1]! l[2]! l[3]!) ∧ obs = []) := by
  refine Fnc.wf fun hw => ?_
  simp only [V.wfs, V.wf, wfs_map, List.length_map] at hw
  have b0 := wfs_at hw.1.1 (k := 0) (by omega)
  have b1 := wfs_at hw.1.1 (k := 1) (by omega)
  have b2 := wfs_at hw.1.1 (k := 2) (by omega)
  have b3 := wfs_at hw.1.1 (k := 3) (by omega)
  have e := num4_or (k := .u32) (.inl rfl) b0 b1 b2 b3
  refine zgo m_num_ok fun W S => ?_
  exact zrh m_num_ok e
end Go.Proofs.YtdpfglkjhdnbbaaGreat
namespace Go.Proofs.YtdpfglkjhdnbbaaGreat
open Go Go.RowKit Rdn Rdn.Dp
set_option linter.unusedVariables false
set_option linter.unusedSimpArgs false
theorem m_wdec_ok : compF Tryz.prog 99 = some (77, Qr ([Qw 2 (.alloc 42 (.agg [.int .i64 0, .int .i64 0, .int .i64 0, .nilS])), Qp 3 (.mov (Qi 0)), Qp 4 (.mov (Qi 0))])
 (.seq (Qr ([Qm 11 0, Qn 12 11, Qk 13 .lss 12 2])
 (.cond (.t 13) (Qr ([Qw 14 (.build none [.int .i64 0, .int .i64 0, .int .i64 0, .nilS] []), Qs 4 2 14, Qp 3 (.mov (Qi 0)), Qp 4 (.mov (Qi 4))])
 (.ret)) (.skip)))
 (.seq (.dreg [Qm 15 0, Qp 16 (.idxA 1 (.t 15) (Qi 0)), Ql 17 1 16, Qp 18 (.conv .i64 (.t 17)), Qm 19 0, Qp 20 (.idxA 1 (.t 19) (Qi 1)), Ql 21 1 20, Qp 22 (.conv .i64 (.t 21)), Qp 23 (.bin 0 .shl (.t 22) (.c (.int .u64 8))), Qb 24 .or 18 23, Qm 5 24] [[], [0], [0, 1], [0, 1, 2], [], [4], [4, 5], [4, 5, 6], [4, 5, 6, 7], [0, 1, 2, 3, 4, 5, 6, 7, 8], [0, 1, 2, 3, 4, 5, 6, 7, 8, 9]])
 (Qr ([Qm 25 5, Qp 26 (.bin 0 .add (Qi 2) (.t 25)), Qk 27 .add 26 4, Qm 6 27])
 (.seq (Qr ([Qm 28 0, Qn 29 28, Qm 30 6, Qb 31 .lss 29 30])
 (.cond (.t 31) (Qr ([Qw 32 (.build none [.int .i64 0, .int .i64 0, .int .i64 0, .nilS] []), Qs 4 2 32, Qp 3 (.mov (Qi 0)), Qp 4 (.mov (Qi 4))])
 (.ret)) (.skip)))
 (.seq (Qr ([Qm 33 5, Qk 34 .lss 33 6])
 (.cond (.t 34) (Qr ([Qw 35 (.build none [.int .i64 0, .int .i64 0, .int .i64 0, .nilS] []), Qs 4 2 35, Qp 3 (.mov (Qi 0)), Qp 4 (.mov (Qi 5))])
 (.ret)) (.skip)))
 (Qr ([Qm 36 0, Qm 37 5, Qp 38 (.bin 0 .add (Qi 2) (.t 37)), Qw 39 (.sl 1 (.t 36) (some (Qi 2)) (some (.t 38)) none), Qm 7 39])
 (.seq (.dreg [Qm 40 7, Qp 41 (.idxA 1 (.t 40) (Qi 0)), Ql 42 1 41, Qp 43 (.conv .i64 (.t 42)), Qm 44 7, Qp 45 (.idxA 1 (.t 44) (Qi 1)), Ql 46 1 45, Qp 47 (.conv .i64 (.t 46)), Qm 48 7, Qw 49 (.sl 1 (.t 48) (some (Qi 2)) none none), Qq 50 108 [(.t 49)], Qp 51 (.conv .i64 (.t 50)), Qw 52 (.build none [.int .i64 0, .int .i64 0, .int .i64 0, .nilS] [(0, (.t 43)), (2, (.t 47)), (1, (.t 51))]), Qw 8 (.alloc 42 (.agg [.int .i64 0, .int .i64 0, .int .i64 0, .nilS])), Qs 4 8 52] [[], [0], [0, 1], [0, 1, 2], [], [4], [4, 5], [4, 5, 6], [], [8], [8, 9], [8, 9, 10], [0, 1, 2, 3, 4, 5, 6, 7, 8, 9, 10, 11], [], [0, 1, 2, 3, 4, 5, 6, 7, 8, 9, 10, 11, 12, 13]])
 (.seq (Qr ([Qm 53 5, Qk 54 .gtr 53 6])
 (.cond (.t 54) (.reg [Qm 55 7, Qw 56 (.sl 1 (.t 55) (some (Qi 6)) none none), Qq 57 109 [(.t 56)], Qf 58 3 3 8, Qs 1 58 57]) (.skip)))
 (.seq (Qr ([QL 60 4 8, Qq 61 56 [(.t 60)], Qm 59 61, Qe 62 59 0, Qe 63 59 1, Qm 9 62, Qm 10 63])
 (Qr ([Qm 64 10, Qk 65 .neq 64 0, Qm 66 65, Q0 67 66 (.mov (.t 9)), Q0 68 66 (.mov (.t 0)), Q0 69 66 (.mov (.t 6)), ⟨(some 70), (some (66, false)), (.m (.sl 1 (.t 68) none (some (.t 69)) none))⟩, ⟨(some 71), (some (66, false)), (.call 110 [(.t 67), (.t 70)])⟩, Q0 72 66 (.un .not (.t 71)), Qt 73 66 72])
 (.cond (.t 73) (Qr ([Qw 74 (.build none [.int .i64 0, .int .i64 0, .int .i64 0, .nilS] []), Qs 4 2 74, Qp 3 (.mov (Qi 0)), Qp 4 (.mov (Qi 5))])
 (.ret)) (.skip))))
 (Qr ([QL 75 4 8, Qm 76 6, Qs 4 2 75, Qm 3 76, Qp 4 (.mov (Qi 0))])
 (.ret))))))))))), [.load true 4 (.t 2), .mov (.t 3), .mov (.t 4)]) := by kernel_rfl
def n0 : Note := ⟨0, 0, 0, []⟩
def kOf (b : List Int) : Int := b[0]! + b[1]! * 256
def noteOf (b : List Int) : Note := ⟨b[2]!, num4 b[4]! b[5]! b[6]! b[7]!, b[3]!, (b.take (kOf b + 2).toNat).drop 8⟩
noncomputable def sDec (b : List Int) : Note × Int × Int :=
  if b.length < 2 then (n0, 0, 4) else if (b.length : Int) < kOf b + 6 then (n0, 0, 4) else if kOf b < 6 then (n0, 0, 5)
  else if (sEnc (noteOf b)).2 = 0 ∧ (sEnc (noteOf b)).1 = b.take (kOf b + 6).toNat then (noteOf b, kOf b + 6, 0) else (n0, 0, 5)
theorem dec_facts {b : List Int} (hb : ∀ x ∈ b, inK .u8 x) (h2 : 2 ≤ b.length) : ∃ K : Nat, bor .i64 b[0]! (b[1]! * 256) = K ∧ kOf b = K ∧ K ≤ 65535 := by
  have b0 := wfs_at hb (k := 0) (by omega)
  have b1 := wfs_at hb (k := 1) (by omega)
  have e : bor .i64 b[0]! (b[1]! * 256) = b[0]! + b[1]! * 256 := bor_sum (.inr rfl) 8 256 (by omega) rfl b0.1 (by omega) b1.1 (by omega)
  refine ⟨(kOf b).toNat, ?_, ?_, ?_⟩
  · rw [e]; unfold kOf; omega
  · unfold kOf; omega
  · unfold kOf; omega
theorem take_mapU (k : IntKind) (l : List Int) (n : Nat) : (l.map (V.int k)).take n = (l.take n).map (V.int k) := by rw [List.map_take]
theorem drop_mapU (k : IntKind) (l : List Int) (n : Nat) : (l.map (V.int k)).drop n = (l.drop n).map (V.int k) := by rw [List.map_drop]
theorem nt0 : SubV (.agg [.int .i64 0, .int .i64 0, .int .i64 0, .nilS]) (.agg (noteL false n0)) := SubV.agg ⟨SubV.refl _, SubV.refl _, SubV.refl _, SubV.nil _ _, trivial⟩
theorem nt1 (a b c : Int) : SubV (.agg [.int .i64 a, .int .i64 b, .int .i64 c, .nilS]) (.agg (noteL false ⟨a, b, c, []⟩)) := SubV.agg ⟨SubV.refl _, SubV.refl _, SubV.refl _, SubV.nil _ _, trivial⟩
theorem part_facts {b : List Int} {K : Nat} (hb : ∀ x ∈ b, inK .u8 x) (h1 : K + 6 ≤ b.length) (h2 : 6 ≤ K) (hk : kOf b = K) : ∃ X : List Int, List.drop 2 (List.take (2 + (K : Int)).toNat b) = X ∧ X.length = K ∧ (∀ x ∈ X, inK .u8 x) ∧ noteOf b = ⟨X[0]!, num4 (X.drop 2)[0]! (X.drop 2)[1]! (X.drop 2)[2]! (X.drop 2)[3]!, X[1]!, X.drop 6⟩ := by
  refine ⟨_, rfl, ?_, ?_, ?_⟩
  · simp only [List.length_drop, List.length_take]; omega
  · exact fun x hx => hb x (List.mem_of_mem_take (List.mem_of_mem_drop hx))
  · have e : (2 + (K : Int)).toNat = K + 2 := by omega
    have at2 : ∀ j, j < K → (List.drop 2 (List.take (K + 2) b))[j]! = b[j + 2]! := fun j hj => by
      simp [List.getElem?_take, show j + 2 < K + 2 by omega, Nat.add_comm]
    have at4 : ∀ j, j + 2 < K → (List.drop 2 (List.drop 2 (List.take (K + 2) b)))[j]! = b[j + 4]! := fun j hj => by
      rw [show (List.drop 2 (List.drop 2 (List.take (K + 2) b)))[j]! = (List.drop 2 (List.take (K + 2) b))[j + 2]! by simp [Nat.add_comm, Nat.add_left_comm], at2 _ hj]
    unfold noteOf
    rw [e, hk, show ((K : Int) + 2).toNat = K + 2 by omega, at2 0 (by omega), at2 1 (by omega), at4 0 (by omega), at4 1 (by omega), at4 2 (by omega), at4 3 (by omega), List.drop_drop]
theorem num4_b {a b c d : Int} (ha : 0 ≤ a ∧ a ≤ 255) (hb : 0 ≤ b ∧ b ≤ 255) (hc : 0 ≤ c ∧ c ≤ 255) (hd : 0 ≤ d ∧ d ≤ 255) : 0 ≤ num4 a b c d ∧ num4 a b c d ≤ 4294967295 := by unfold num4; omega
attribute [local go_sem] take_mapU drop_mapU List.take_length
attribute [local irreducible] num4 sEnc
set_option maxHeartbeats 8000000 in
theorem wdec_fn (b : List Int) : Fnc Tryz.prog 99 [.sl false 1 (u8s b)] (fun x obs => x = .tup [.agg (noteL false (sDec b).1), .int .i64 (sDec b).2.1, .int .i64 (sDec b).2.2] ∧ obs = []) := by
  refine Fnc.wf fun hw => ?_
  simp only [V.wfs, V.wf, wfs_map, List.length_map] at hw
  have hb := hw.1.1
  have hm := hw.1.2
  clear hw
  refine Fnc.low ?_
  by_cases c1 : b.length < 2
  · rw [show sDec b = (n0, 0, 4) by rw [sDec, if_pos c1]]
    refine zgo m_wdec_ok fun W S => ?_
    refine ev_obSub 0 _ rfl nt0 rfl ?_
    exact zrt m_wdec_ok
  obtain ⟨K, hor, hk, hK⟩ := dec_facts hb (by omega)
  have b0 := wfs_at hb (k := 0) (by omega)
  have b1 := wfs_at hb (k := 1) (by omega)
  by_cases c2 : b.length < K + 6
  · rw [show sDec b = (n0, 0, 4) by rw [sDec, if_neg c1, if_pos (by omega)]]
    refine Fnc.intro m_wdec_ok (by simp) fun W S => ?_
    simp only [ents, Nat.zero_add, Nat.reduceAdd, Qm, Qc, Ql, QL, Qf, Qs, Qb, Qk, QB, Qn, Qe, Qx, Qt, Qu, Q0, Q1, Qp, Qw, Qq, Qr, Qi]
    repeat (first | (simp only [hor]; try simp only [go_sem]) | refine And.intro (by omega) ?_ | refine And.intro rfl ?_ | refine ev_ctl rfl rfl ?_ | refine evr_nil ?_ | refine evw_nil (by kernel_rfl) ?_ | (simp (disch := omega) only [takeAll, Nat.min_eq_left, Nat.min_eq_right, if_pos, if_neg, getD_map, wrapI64, modIn, fdivE, tmodE, tdivE, decT, decF, beqT, beqF, bneT, bneF, Int.toNat_natCast]; try simp only [go_sem]) | (refine ev_condTb rfl ?_ ?_; · (simp <;> omega)) | (refine ev_condFb rfl ?_ ?_; · (simp <;> omega)) | ((first | refine ev_region ?_ | refine evr_go rfl ?_ | refine evw_go rfl ?_ | refine ev_dr0 mixed rfl (by kernel_rfl) ?_ | refine ev_dr1 mixed rfl (by kernel_rfl) ?_ | refine ev_dr2 mixed rfl (by kernel_rfl) ?_); simp only [go_sem]))
    refine ev_obSub 0 _ rfl nt0 rfl ?_
    exact zrt m_wdec_ok
  by_cases c3 : K < 6
  · rw [show sDec b = (n0, 0, 5) by rw [sDec, if_neg c1, if_neg (by omega), if_pos (by omega)]]
    refine Fnc.intro m_wdec_ok (by simp) fun W S => ?_
    simp only [ents, Nat.zero_add, Nat.reduceAdd, Qm, Qc, Ql, QL, Qf, Qs, Qb, Qk, QB, Qn, Qe, Qx, Qt, Qu, Q0, Q1, Qp, Qw, Qq, Qr, Qi]
    repeat (first | (simp only [hor]; try simp only [go_sem]) | refine And.intro (by omega) ?_ | refine And.intro rfl ?_ | refine ev_ctl rfl rfl ?_ | refine evr_nil ?_ | refine evw_nil (by kernel_rfl) ?_ | (simp (disch := omega) only [takeAll, Nat.min_eq_left, Nat.min_eq_right, if_pos, if_neg, getD_map, wrapI64, modIn, fdivE, tmodE, tdivE, decT, decF, beqT, beqF, bneT, bneF, Int.toNat_natCast]; try simp only [go_sem]) | (refine ev_condTb rfl ?_ ?_; · (simp <;> omega)) | (refine ev_condFb rfl ?_ ?_; · (simp <;> omega)) | ((first | refine ev_region ?_ | refine evr_go rfl ?_ | refine evw_go rfl ?_ | refine ev_dr0 mixed rfl (by kernel_rfl) ?_ | refine ev_dr1 mixed rfl (by kernel_rfl) ?_ | refine ev_dr2 mixed rfl (by kernel_rfl) ?_); simp only [go_sem]))
    refine ev_obSub 0 _ rfl nt0 rfl ?_
    exact zrt m_wdec_ok
  obtain ⟨X, hX, hXl, hXb, hn⟩ := part_facts hb (by omega) (by omega) hk
  have x0 := wfs_at hXb (k := 0) (by omega)
  have x1 := wfs_at hXb (k := 1) (by omega)
  have hdb : ∀ x ∈ X.drop 2, inK .u8 x := fun x hx => hXb x (List.mem_of_mem_drop hx)
  have hdl : (X.drop 2).length = K - 2 := by rw [List.length_drop, hXl]
  have nb := num4_b (wfs_at hdb (k := 0) (by omega)) (wfs_at hdb (k := 1) (by omega)) (wfs_at hdb (k := 2) (by omega)) (wfs_at hdb (k := 3) (by omega))
  have nf := num_fn (X.drop 2) (by omega)
  generalize num4 (X.drop 2)[0]! (X.drop 2)[1]! (X.drop 2)[2]! (X.drop 2)[3]! = nm at nb nf hn
  have hall : List.take (2 + (K : Int) + 4).toNat b = b.take (kOf b + 6).toNat := by rw [hk]; congr 1; omega
  have hS : sDec b = if (sEnc (noteOf b)).2 = 0 ∧ (sEnc (noteOf b)).1 = b.take (kOf b + 6).toNat then (noteOf b, kOf b + 6, 0) else (n0, 0, 5) := by rw [sDec, if_neg c1, if_neg (by omega), if_neg (by omega)]
  rw [hn] at hS
  have hk6 : kOf b + 6 = 2 + (K : Int) + 4 := by omega
  generalize b.take (kOf b + 6).toNat = T at hall hS
  rw [hk6] at hS
  by_cases c4 : K = 6
  · have hd : X.drop 6 = [] := List.drop_of_length_le (by omega)
    rw [hd] at hS
    have ef := wenc_fn ⟨X[0]!, nm, X[1]!, []⟩
    have n1 := nt1 X[0]! nm X[1]!
    generalize sEnc ⟨X[0]!, nm, X[1]!, []⟩ = r at hS ef
    have be := bequal_fn r.1 T
    by_cases c5 : r.2 = 0
    · by_cases c6 : r.1 = T
      · rw [if_pos ⟨c5, c6⟩] at hS
        rw [hS]
        rw [decT c6] at be
        refine Fnc.intro m_wdec_ok (by simp) fun W S => ?_
        simp only [ents, Nat.zero_add, Nat.reduceAdd, Qm, Qc, Ql, QL, Qf, Qs, Qb, Qk, QB, Qn, Qe, Qx, Qt, Qu, Q0, Q1, Qp, Qw, Qq, Qr, Qi]
        repeat (first | (simp only [hor, hX]; try simp only [go_sem]) | refine And.intro (by omega) ?_ | refine And.intro rfl ?_ | refine ev_ctl rfl rfl ?_ | refine evr_nil ?_ | refine evw_nil (by kernel_rfl) ?_ | (simp (disch := omega) only [takeAll, Nat.min_eq_left, Nat.min_eq_right, if_pos, if_neg, getD_map, wrapI64, modIn, fdivE, tmodE, tdivE, decT, decF, beqT, beqF, bneT, bneF, Int.toNat_natCast]; try simp only [go_sem]) | (refine ev_condTb rfl ?_ ?_; · (simp <;> omega)) | (refine ev_condFb rfl ?_ ?_; · (simp <;> omega)) | ((first | refine ev_region ?_ | refine evr_go rfl ?_ | refine evw_go rfl ?_ | refine ev_dr0 mixed rfl (by kernel_rfl) ?_ | refine ev_dr1 mixed rfl (by kernel_rfl) ?_ | refine ev_dr2 mixed rfl (by kernel_rfl) ?_); simp only [go_sem]))
        (first | refine callD (nf) ?_ | refine callDw (nf) ?_); refine zev ?_
        repeat (first | (simp only [hor, hX, hall]; try simp only [go_sem]) | refine And.intro (by omega) ?_ | refine And.intro rfl ?_ | refine ev_ctl rfl rfl ?_ | refine evr_nil ?_ | refine evw_nil (by kernel_rfl) ?_ | (simp (disch := omega) only [takeAll, Nat.min_eq_left, Nat.min_eq_right, if_pos, if_neg, getD_map, wrapI64, modIn, fdivE, tmodE, tdivE, decT, decF, beqT, beqF, bneT, bneF, Int.toNat_natCast]; try simp only [go_sem]) | (refine ev_condTb rfl ?_ ?_; · (simp <;> omega)) | (refine ev_condFb rfl ?_ ?_; · (simp <;> omega)) | ((first | refine ev_region ?_ | refine evr_go rfl ?_ | refine evw_go rfl ?_ | refine ev_dr0 mixed rfl (by kernel_rfl) ?_ | refine ev_dr1 mixed rfl (by kernel_rfl) ?_ | refine ev_dr2 mixed rfl (by kernel_rfl) ?_); simp only [go_sem]))
        refine evr_obSub 1 _ rfl n1 ?_
        (first | refine callD (ef) ?_ | refine callDw (ef) ?_); refine zev ?_
        refine zsx hall ?_
        refine zcd (be) ?_
        exact zrt m_wdec_ok
      · rw [if_neg (fun h => c6 h.2)] at hS
        rw [hS]
        rw [decF c6] at be
        refine Fnc.intro m_wdec_ok (by simp) fun W S => ?_
        simp only [ents, Nat.zero_add, Nat.reduceAdd, Qm, Qc, Ql, QL, Qf, Qs, Qb, Qk, QB, Qn, Qe, Qx, Qt, Qu, Q0, Q1, Qp, Qw, Qq, Qr, Qi]
        repeat (first | (simp only [hor, hX]; try simp only [go_sem]) | refine And.intro (by omega) ?_ | refine And.intro rfl ?_ | refine ev_ctl rfl rfl ?_ | refine evr_nil ?_ | refine evw_nil (by kernel_rfl) ?_ | (simp (disch := omega) only [takeAll, Nat.min_eq_left, Nat.min_eq_right, if_pos, if_neg, getD_map, wrapI64, modIn, fdivE, tmodE, tdivE, decT, decF, beqT, beqF, bneT, bneF, Int.toNat_natCast]; try simp only [go_sem]) | (refine ev_condTb rfl ?_ ?_; · (simp <;> omega)) | (refine ev_condFb rfl ?_ ?_; · (simp <;> omega)) | ((first | refine ev_region ?_ | refine evr_go rfl ?_ | refine evw_go rfl ?_ | refine ev_dr0 mixed rfl (by kernel_rfl) ?_ | refine ev_dr1 mixed rfl (by kernel_rfl) ?_ | refine ev_dr2 mixed rfl (by kernel_rfl) ?_); simp only [go_sem]))
        (first | refine callD (nf) ?_ | refine callDw (nf) ?_); refine zev ?_
        repeat (first | (simp only [hor, hX, hall]; try simp only [go_sem]) | refine And.intro (by omega) ?_ | refine And.intro rfl ?_ | refine ev_ctl rfl rfl ?_ | refine evr_nil ?_ | refine evw_nil (by kernel_rfl) ?_ | (simp (disch := omega) only [takeAll, Nat.min_eq_left, Nat.min_eq_right, if_pos, if_neg, getD_map, wrapI64, modIn, fdivE, tmodE, tdivE, decT, decF, beqT, beqF, bneT, bneF, Int.toNat_natCast]; try simp only [go_sem]) | (refine ev_condTb rfl ?_ ?_; · (simp <;> omega)) | (refine ev_condFb rfl ?_ ?_; · (simp <;> omega)) | ((first | refine ev_region ?_ | refine evr_go rfl ?_ | refine evw_go rfl ?_ | refine ev_dr0 mixed rfl (by kernel_rfl) ?_ | refine ev_dr1 mixed rfl (by kernel_rfl) ?_ | refine ev_dr2 mixed rfl (by kernel_rfl) ?_); simp only [go_sem]))
        refine evr_obSub 1 _ rfl n1 ?_
        (first | refine callD (ef) ?_ | refine callDw (ef) ?_); refine zev ?_
        refine zsx hall ?_
        refine zcd (be) ?_
        refine ev_obSub 0 _ rfl nt0 rfl ?_
        exact zrt m_wdec_ok
    · rw [if_neg (fun h => c5 h.1)] at hS
      rw [hS]
      refine Fnc.intro m_wdec_ok (by simp) fun W S => ?_
      simp only [ents, Nat.zero_add, Nat.reduceAdd, Qm, Qc, Ql, QL, Qf, Qs, Qb, Qk, QB, Qn, Qe, Qx, Qt, Qu, Q0, Q1, Qp, Qw, Qq, Qr, Qi]
      repeat (first | (simp only [hor, hX]; try simp only [go_sem]) | refine And.intro (by omega) ?_ | refine And.intro rfl ?_ | refine ev_ctl rfl rfl ?_ | refine evr_nil ?_ | refine evw_nil (by kernel_rfl) ?_ | (simp (disch := omega) only [takeAll, Nat.min_eq_left, Nat.min_eq_right, if_pos, if_neg, getD_map, wrapI64, modIn, fdivE, tmodE, tdivE, decT, decF, beqT, beqF, bneT, bneF, Int.toNat_natCast]; try simp only [go_sem]) | (refine ev_condTb rfl ?_ ?_; · (simp <;> omega)) | (refine ev_condFb rfl ?_ ?_; · (simp <;> omega)) | ((first | refine ev_region ?_ | refine evr_go rfl ?_ | refine evw_go rfl ?_ | refine ev_dr0 mixed rfl (by kernel_rfl) ?_ | refine ev_dr1 mixed rfl (by kernel_rfl) ?_ | refine ev_dr2 mixed rfl (by kernel_rfl) ?_); simp only [go_sem]))
      (first | refine callD (nf) ?_ | refine callDw (nf) ?_); refine zev ?_
      repeat (first | (simp only [hor, hX, hall]; try simp only [go_sem]) | refine And.intro (by omega) ?_ | refine And.intro rfl ?_ | refine ev_ctl rfl rfl ?_ | refine evr_nil ?_ | refine evw_nil (by kernel_rfl) ?_ | (simp (disch := omega) only [takeAll, Nat.min_eq_left, Nat.min_eq_right, if_pos, if_neg, getD_map, wrapI64, modIn, fdivE, tmodE, tdivE, decT, decF, beqT, beqF, bneT, bneF, Int.toNat_natCast]; try simp only [go_sem]) | (refine ev_condTb rfl ?_ ?_; · (simp <;> omega)) | (refine ev_condFb rfl ?_ ?_; · (simp <;> omega)) | ((first | refine ev_region ?_ | refine evr_go rfl ?_ | refine evw_go rfl ?_ | refine ev_dr0 mixed rfl (by kernel_rfl) ?_ | refine ev_dr1 mixed rfl (by kernel_rfl) ?_ | refine ev_dr2 mixed rfl (by kernel_rfl) ?_); simp only [go_sem]))
      refine evr_obSub 1 _ rfl n1 ?_
      (first | refine callD (ef) ?_ | refine callDw (ef) ?_); refine zev ?_
      refine zsx hall ?_
      refine ev_obSub 0 _ rfl nt0 rfl ?_
      exact zrt m_wdec_ok
  · have bc := bclone_fn (X.drop 6) (by rw [List.length_drop]; omega)
    have ef := wenc_fn ⟨X[0]!, nm, X[1]!, X.drop 6⟩
    generalize sEnc ⟨X[0]!, nm, X[1]!, X.drop 6⟩ = r at hS ef
    have be := bequal_fn r.1 T
    by_cases c5 : r.2 = 0
    · by_cases c6 : r.1 = T
      · rw [if_pos ⟨c5, c6⟩] at hS
        rw [hS]
        rw [decT c6] at be
        refine Fnc.intro m_wdec_ok (by simp) fun W S => ?_
        simp only [ents, Nat.zero_add, Nat.reduceAdd, Qm, Qc, Ql, QL, Qf, Qs, Qb, Qk, QB, Qn, Qe, Qx, Qt, Qu, Q0, Q1, Qp, Qw, Qq, Qr, Qi]
        repeat (first | (simp only [hor, hX]; try simp only [go_sem]) | refine And.intro (by omega) ?_ | refine And.intro rfl ?_ | refine ev_ctl rfl rfl ?_ | refine evr_nil ?_ | refine evw_nil (by kernel_rfl) ?_ | (simp (disch := omega) only [takeAll, Nat.min_eq_left, Nat.min_eq_right, if_pos, if_neg, getD_map, wrapI64, modIn, fdivE, tmodE, tdivE, decT, decF, beqT, beqF, bneT, bneF, Int.toNat_natCast]; try simp only [go_sem]) | (refine ev_condTb rfl ?_ ?_; · (simp <;> omega)) | (refine ev_condFb rfl ?_ ?_; · (simp <;> omega)) | ((first | refine ev_region ?_ | refine evr_go rfl ?_ | refine evw_go rfl ?_ | refine ev_dr0 mixed rfl (by kernel_rfl) ?_ | refine ev_dr1 mixed rfl (by kernel_rfl) ?_ | refine ev_dr2 mixed rfl (by kernel_rfl) ?_); simp only [go_sem]))
        (first | refine callD (nf) ?_ | refine callDw (nf) ?_); refine zev ?_
        repeat (first | (simp only [hor, hX, hall]; try simp only [go_sem]) | refine And.intro (by omega) ?_ | refine And.intro rfl ?_ | refine ev_ctl rfl rfl ?_ | refine evr_nil ?_ | refine evw_nil (by kernel_rfl) ?_ | (simp (disch := omega) only [takeAll, Nat.min_eq_left, Nat.min_eq_right, if_pos, if_neg, getD_map, wrapI64, modIn, fdivE, tmodE, tdivE, decT, decF, beqT, beqF, bneT, bneF, Int.toNat_natCast]; try simp only [go_sem]) | (refine ev_condTb rfl ?_ ?_; · (simp <;> omega)) | (refine ev_condFb rfl ?_ ?_; · (simp <;> omega)) | ((first | refine ev_region ?_ | refine evr_go rfl ?_ | refine evw_go rfl ?_ | refine ev_dr0 mixed rfl (by kernel_rfl) ?_ | refine ev_dr1 mixed rfl (by kernel_rfl) ?_ | refine ev_dr2 mixed rfl (by kernel_rfl) ?_); simp only [go_sem]))
        (first | refine callD (bc) ?_ | refine callDw (bc) ?_); refine zev ?_
        refine zsx hall ?_
        (first | refine callD (ef) ?_ | refine callDw (ef) ?_); refine zev ?_
        refine zsx hall ?_
        refine zcd (be) ?_
        exact zrt m_wdec_ok
      · rw [if_neg (fun h => c6 h.2)] at hS
        rw [hS]
        rw [decF c6] at be
        refine Fnc.intro m_wdec_ok (by simp) fun W S => ?_
        simp only [ents, Nat.zero_add, Nat.reduceAdd, Qm, Qc, Ql, QL, Qf, Qs, Qb, Qk, QB, Qn, Qe, Qx, Qt, Qu, Q0, Q1, Qp, Qw, Qq, Qr, Qi]
        repeat (first | (simp only [hor, hX]; try simp only [go_sem]) | refine And.intro (by omega) ?_ | refine And.intro rfl ?_ | refine ev_ctl rfl rfl ?_ | refine evr_nil ?_ | refine evw_nil (by kernel_rfl) ?_ | (simp (disch := omega) only [takeAll, Nat.min_eq_left, Nat.min_eq_right, if_pos, if_neg, getD_map, wrapI64, modIn, fdivE, tmodE, tdivE, decT, decF, beqT, beqF, bneT, bneF, Int.toNat_natCast]; try simp only [go_sem]) | (refine ev_condTb rfl ?_ ?_; · (simp <;> omega)) | (refine ev_condFb rfl ?_ ?_; · (simp <;> omega)) | ((first | refine ev_region ?_ | refine evr_go rfl ?_ | refine evw_go rfl ?_ | refine ev_dr0 mixed rfl (by kernel_rfl) ?_ | refine ev_dr1 mixed rfl (by kernel_rfl) ?_ | refine ev_dr2 mixed rfl (by kernel_rfl) ?_); simp only [go_sem]))
        (first | refine callD (nf) ?_ | refine callDw (nf) ?_); refine zev ?_
        repeat (first | (simp only [hor, hX, hall]; try simp only [go_sem]) | refine And.intro (by omega) ?_ | refine And.intro rfl ?_ | refine ev_ctl rfl rfl ?_ | refine evr_nil ?_ | refine evw_nil (by kernel_rfl) ?_ | (simp (disch := omega) only [takeAll, Nat.min_eq_left, Nat.min_eq_right, if_pos, if_neg, getD_map, wrapI64, modIn, fdivE, tmodE, tdivE, decT, decF, beqT, beqF, bneT, bneF, Int.toNat_natCast]; try simp only [go_sem]) | (refine ev_condTb rfl ?_ ?_; · (simp <;> omega)) | (refine ev_condFb rfl ?_ ?_; · (simp <;> omega)) | ((first | refine ev_region ?_ | refine evr_go rfl ?_ | refine evw_go rfl ?_ | refine ev_dr0 mixed rfl (by kernel_rfl) ?_ | refine ev_dr1 mixed rfl (by kernel_rfl) ?_ | refine ev_dr2 mixed rfl (by kernel_rfl) ?_); simp only [go_sem]))
        (first | refine callD (bc) ?_ | refine callDw (bc) ?_); refine zev ?_
        refine zsx hall ?_
        (first | refine callD (ef) ?_ | refine callDw (ef) ?_); refine zev ?_
        refine zsx hall ?_
        refine zcd (be) ?_
        refine ev_obSub 0 _ rfl nt0 rfl ?_
        exact zrt m_wdec_ok
    · rw [if_neg (fun h => c5 h.1)] at hS
      rw [hS]
      refine Fnc.intro m_wdec_ok (by simp) fun W S => ?_
      simp only [ents, Nat.zero_add, Nat.reduceAdd, Qm, Qc, Ql, QL, Qf, Qs, Qb, Qk, QB, Qn, Qe, Qx, Qt, Qu, Q0, Q1, Qp, Qw, Qq, Qr, Qi]
      repeat (first | (simp only [hor, hX]; try simp only [go_sem]) | refine And.intro (by omega) ?_ | refine And.intro rfl ?_ | refine ev_ctl rfl rfl ?_ | refine evr_nil ?_ | refine evw_nil (by kernel_rfl) ?_ | (simp (disch := omega) only [takeAll, Nat.min_eq_left, Nat.min_eq_right, if_pos, if_neg, getD_map, wrapI64, modIn, fdivE, tmodE, tdivE, decT, decF, beqT, beqF, bneT, bneF, Int.toNat_natCast]; try simp only [go_sem]) | (refine ev_condTb rfl ?_ ?_; · (simp <;> omega)) | (refine ev_condFb rfl ?_ ?_; · (simp <;> omega)) | ((first | refine ev_region ?_ | refine evr_go rfl ?_ | refine evw_go rfl ?_ | refine ev_dr0 mixed rfl (by kernel_rfl) ?_ | refine ev_dr1 mixed rfl (by kernel_rfl) ?_ | refine ev_dr2 mixed rfl (by kernel_rfl) ?_); simp only [go_sem]))
      (first | refine callD (nf) ?_ | refine callDw (nf) ?_); refine zev ?_
      repeat (first | (simp only [hor, hX, hall]; try simp only [go_sem]) | refine And.intro (by omega) ?_ | refine And.intro rfl ?_ | refine ev_ctl rfl rfl ?_ | refine evr_nil ?_ | refine evw_nil (by kernel_rfl) ?_ | (simp (disch := omega) only [takeAll, Nat.min_eq_left, Nat.min_eq_right, if_pos, if_neg, getD_map, wrapI64, modIn, fdivE, tmodE, tdivE, decT, decF, beqT, beqF, bneT, bneF, Int.toNat_natCast]; try simp only [go_sem]) | (refine ev_condTb rfl ?_ ?_; · (simp <;> omega)) | (refine ev_condFb rfl ?_ ?_; · (simp <;> omega)) | ((first | refine ev_region ?_ | refine evr_go rfl ?_ | refine evw_go rfl ?_ | refine ev_dr0 mixed rfl (by kernel_rfl) ?_ | refine ev_dr1 mixed rfl (by kernel_rfl) ?_ | refine ev_dr2 mixed rfl (by kernel_rfl) ?_); simp only [go_sem]))
      (first | refine callD (bc) ?_ | refine callDw (bc) ?_); refine zev ?_
      refine zsx hall ?_
      (first | refine callD (ef) ?_ | refine callDw (ef) ?_); refine zev ?_
      refine zsx hall ?_
      refine ev_obSub 0 _ rfl nt0 rfl ?_
      exact zrt m_wdec_ok
end Go.Proofs.YtdpfglkjhdnbbaaGreat
namespace Go.Proofs.YtdpfglkjhdnbbaaGreat
open Go Go.RowKit Rdn Rdn.Dp
set_option linter.unusedVariables false
set_option linter.unusedSimpArgs false
theorem m_rdec_ok : compF Tryz.prog 90 = some (90, Qr ([Qw 2 (.alloc 42 (.agg [.int .i64 0, .int .i64 0, .int .i64 0, .nilS])), Qp 3 (.mov (Qi 0)), Qp 4 (.mov (Qi 0))])
 (.seq (Qr ([Qm 9 0, Qn 10 9, Qk 11 .lss 10 2])
 (.cond (.t 11) (Qr ([Qw 12 (.build none [.int .i64 0, .int .i64 0, .int .i64 0, .nilS] []), Qs 4 2 12, Qp 3 (.mov (Qi 0)), Qp 4 (.mov (Qi 4))])
 (.ret)) (.skip)))
 (.seq (.dreg [Qm 13 0, Qp 14 (.idxA 1 (.t 13) (Qi 0)), Ql 15 1 14, Qp 16 (.conv .i64 (.t 15)), Qm 17 0, Qp 18 (.idxA 1 (.t 17) (Qi 1)), Ql 19 1 18, Qp 20 (.conv .i64 (.t 19)), Qp 21 (.bin 0 .shl (.t 20) (.c (.int .u64 8))), Qb 22 .or 16 21, Qm 5 22] [[], [0], [0, 1], [0, 1, 2], [], [4], [4, 5], [4, 5, 6], [4, 5, 6, 7], [0, 1, 2, 3, 4, 5, 6, 7, 8], [0, 1, 2, 3, 4, 5, 6, 7, 8, 9]])
 (.seq (Qr ([Qm 23 0, Qn 24 23, Qm 25 5, Qk 26 .add 25 6, Qb 27 .lss 24 26])
 (.cond (.t 27) (Qr ([Qw 28 (.build none [.int .i64 0, .int .i64 0, .int .i64 0, .nilS] []), Qs 4 2 28, Qp 3 (.mov (Qi 0)), Qp 4 (.mov (Qi 4))])
 (.ret)) (.skip)))
 (.seq (Qr ([Qm 29 5, Qk 30 .lss 29 6])
 (.cond (.t 30) (Qr ([Qw 31 (.build none [.int .i64 0, .int .i64 0, .int .i64 0, .nilS] []), Qs 4 2 31, Qp 3 (.mov (Qi 0)), Qp 4 (.mov (Qi 5))])
 (.ret)) (.skip)))
 (.seq (.dreg [Qm 32 0, Qp 33 (.idxA 1 (.t 32) (Qi 2)), Ql 34 1 33, Qp 35 (.conv .i64 (.t 34)), Qm 36 0, Qp 37 (.idxA 1 (.t 36) (Qi 3)), Ql 38 1 37, Qp 39 (.conv .i64 (.t 38)), Qm 40 0, Qp 41 (.idxA 1 (.t 40) (Qi 4)), Ql 42 1 41, Qp 43 (.conv .i64 (.t 42)), Qm 44 0, Qp 45 (.idxA 1 (.t 44) (Qi 5)), Ql 46 1 45, Qp 47 (.conv .i64 (.t 46)), Qp 48 (.bin 0 .shl (.t 47) (.c (.int .u64 8))), Qb 49 .or 43 48, Qm 50 0, Qp 51 (.idxA 1 (.t 50) (Qi 6)), Ql 52 1 51, Qp 53 (.conv .i64 (.t 52)), Qp 54 (.bin 0 .shl (.t 53) (.c (.int .u64 16))), Qb 55 .or 49 54, Qm 56 0, Qp 57 (.idxA 1 (.t 56) (Qi 7)), Ql 58 1 57, Qp 59 (.conv .i64 (.t 58)), Qp 60 (.bin 0 .shl (.t 59) (.c (.int .u64 24))), Qb 61 .or 55 60, Qw 62 (.buildS 5 1 (.int .u8 0) 0 []), Qm 63 0, Qm 64 5, Qk 65 .add 64 2, Qw 66 (.sl 1 (.t 63) (some (Qi 8)) (some (.t 65)) none), Qw 67 (.app 5 1 1 (.t 62) (.t 66)), Qw 68 (.build none [.int .i64 0, .int .i64 0, .int .i64 0, .nilS] [(0, (.t 35)), (2, (.t 39)), (1, (.t 61)), (3, (.t 67))]), Qw 6 (.alloc 42 (.agg [.int .i64 0, .int .i64 0, .int .i64 0, .nilS])), Qs 4 6 68] [[], [0], [0, 1], [0, 1, 2], [], [4], [4, 5], [4, 5, 6], [], [8], [8, 9], [8, 9, 10], [], [12], [12, 13], [12, 13, 14], [12, 13, 14, 15], [8, 9, 10, 11, 12, 13, 14, 15, 16], [], [18], [18, 19], [18, 19, 20], [18, 19, 20, 21], [8, 9, 10, 11, 12, 13, 14, 15, 16, 17, 18, 19, 20, 21, 22], [], [24], [24, 25], [24, 25, 26], [24, 25, 26, 27], [8, 9, 10, 11, 12, 13, 14, 15, 16, 17, 18, 19, 20, 21, 22, 23, 24, 25, 26, 27, 28], [], [], [], [32], [31, 32, 33], [30, 31, 32, 33, 34], [0, 1, 2, 3, 4, 5, 6, 7, 8, 9, 10, 11, 12, 13, 14, 15, 16, 17, 18, 19, 20, 21, 22, 23, 24, 25, 26, 27, 28, 29, 30, 31, 32, 33, 34, 35], [], [0, 1, 2, 3, 4, 5, 6, 7, 8, 9, 10, 11, 12, 13, 14, 15, 16, 17, 18, 19, 20, 21, 22, 23, 24, 25, 26, 27, 28, 29, 30, 31, 32, 33, 34, 35, 36, 37]])
 (Qr ([QL 70 4 6, Qq 71 44 [(.t 70)], Qm 69 71, Qe 72 69 0, Qe 73 69 1, Qm 7 72, Qm 8 73])
 (.seq (.seq (.dreg [Qm 74 8, Qk 75 .neq 74 0, Qm 76 75, Q0 77 76 (.mov (.t 7)), Q0 78 76 (.b2s (.t 77)), Q0 79 76 (.mov (.t 0)), Q0 80 76 (.mov (.t 5)), Q0 81 76 (.bin 0 .add (.t 80) (Qi 6)), ⟨(some 82), (some (76, false)), (.m (.sl 1 (.t 79) none (some (.t 81)) none))⟩, Q0 83 76 (.b2s (.t 82)), Q0 84 76 (.bin 0 .neq (.t 78) (.t 83)), Qt 85 76 84] [[], [0], [0, 1], [0, 1, 2], [0, 1, 2, 3], [0, 1, 2], [0, 1, 2], [0, 1, 2, 6], [0, 1, 2, 5, 6, 7], [0, 1, 2, 5, 6, 7, 8], [0, 1, 2, 3, 4, 5, 6, 7, 8, 9], [0, 1, 2, 3, 4, 5, 6, 7, 8, 9, 10]])
 (.cond (.t 85) (Qr ([Qw 86 (.build none [.int .i64 0, .int .i64 0, .int .i64 0, .nilS] []), Qs 4 2 86, Qp 3 (.mov (Qi 0)), Qp 4 (.mov (Qi 5))])
 (.ret)) (.skip)))
 (Qr ([QL 87 4 6, Qm 88 5, Qk 89 .add 88 6, Qs 4 2 87, Qm 3 89, Qp 4 (.mov (Qi 0))])
 (.ret))))))))), [.load true 4 (.t 2), .mov (.t 3), .mov (.t 4)]) := by kernel_rfl
attribute [local go_sem] take_mapU drop_mapU List.take_length numV_u8s
attribute [local irreducible] num4 sEnc
set_option maxHeartbeats 8000000 in
theorem rdec_fn (b : List Int) : Fnc Tryz.prog 90 [.sl false 1 (u8s b)] (fun x obs => x = .tup [.agg (noteL false (sDec b).1), .int .i64 (sDec b).2.1, .int .i64 (sDec b).2.2] ∧ obs = []) := by
  refine Fnc.wf fun hw => ?_
  simp only [V.wfs, V.wf, wfs_map, List.length_map] at hw
  have hb := hw.1.1
  have hm := hw.1.2
  clear hw
  refine Fnc.low ?_
  by_cases c1 : b.length < 2
  · rw [show sDec b = (n0, 0, 4) by rw [sDec, if_pos c1]]
    refine zgo m_rdec_ok fun W S => ?_
    refine ev_obSub 0 _ rfl nt0 rfl ?_
    exact zrt m_rdec_ok
  obtain ⟨K, hor, hk, hK⟩ := dec_facts hb (by omega)
  have b0 := wfs_at hb (k := 0) (by omega)
  have b1 := wfs_at hb (k := 1) (by omega)
  by_cases c2 : b.length < K + 6
  · rw [show sDec b = (n0, 0, 4) by rw [sDec, if_neg c1, if_pos (by omega)]]
    refine Fnc.intro m_rdec_ok (by simp) fun W S => ?_
    simp only [ents, Nat.zero_add, Nat.reduceAdd, Qm, Qc, Ql, QL, Qf, Qs, Qb, Qk, QB, Qn, Qe, Qx, Qt, Qu, Q0, Q1, Qp, Qw, Qq, Qr, Qi]
    repeat (first | (simp only [hor]; try simp only [go_sem]) | refine And.intro (by omega) ?_ | refine And.intro rfl ?_ | refine ev_ctl rfl rfl ?_ | refine evr_nil ?_ | refine evw_nil (by kernel_rfl) ?_ | (simp (disch := omega) only [takeAll, Nat.min_eq_left, Nat.min_eq_right, if_pos, if_neg, getD_map, wrapI64, modIn, fdivE, tmodE, tdivE, decT, decF, beqT, beqF, bneT, bneF, Int.toNat_natCast]; try simp only [go_sem]) | (refine ev_condTb rfl ?_ ?_; · (simp <;> omega)) | (refine ev_condFb rfl ?_ ?_; · (simp <;> omega)) | ((first | refine ev_region ?_ | refine evr_go rfl ?_ | refine evw_go rfl ?_); simp only [go_sem]))
    refine ev_draw (fu := fu8) mixed [] 0 rfl (by kernel_rfl) ?_; simp only [go_sem]
    repeat (first | (simp only [hor]; try simp only [go_sem]) | refine And.intro (by omega) ?_ | refine And.intro rfl ?_ | refine ev_ctl rfl rfl ?_ | refine evr_nil ?_ | refine evw_nil (by kernel_rfl) ?_ | (simp (disch := omega) only [takeAll, Nat.min_eq_left, Nat.min_eq_right, if_pos, if_neg, getD_map, wrapI64, modIn, fdivE, tmodE, tdivE, decT, decF, beqT, beqF, bneT, bneF, Int.toNat_natCast]; try simp only [go_sem]) | (refine ev_condTb rfl ?_ ?_; · (simp <;> omega)) | (refine ev_condFb rfl ?_ ?_; · (simp <;> omega)) | ((first | refine ev_region ?_ | refine evr_go rfl ?_ | refine evw_go rfl ?_ | refine ev_dr0 mixed rfl (by kernel_rfl) ?_ | refine ev_dr1 mixed rfl (by kernel_rfl) ?_ | refine ev_dr2 mixed rfl (by kernel_rfl) ?_); simp only [go_sem]))
    refine ev_obSub 0 _ rfl nt0 rfl ?_
    exact zrt m_rdec_ok
  by_cases c3 : K < 6
  · rw [show sDec b = (n0, 0, 5) by rw [sDec, if_neg c1, if_neg (by omega), if_pos (by omega)]]
    refine Fnc.intro m_rdec_ok (by simp) fun W S => ?_
    simp only [ents, Nat.zero_add, Nat.reduceAdd, Qm, Qc, Ql, QL, Qf, Qs, Qb, Qk, QB, Qn, Qe, Qx, Qt, Qu, Q0, Q1, Qp, Qw, Qq, Qr, Qi]
    repeat (first | (simp only [hor]; try simp only [go_sem]) | refine And.intro (by omega) ?_ | refine And.intro rfl ?_ | refine ev_ctl rfl rfl ?_ | refine evr_nil ?_ | refine evw_nil (by kernel_rfl) ?_ | (simp (disch := omega) only [takeAll, Nat.min_eq_left, Nat.min_eq_right, if_pos, if_neg, getD_map, wrapI64, modIn, fdivE, tmodE, tdivE, decT, decF, beqT, beqF, bneT, bneF, Int.toNat_natCast]; try simp only [go_sem]) | (refine ev_condTb rfl ?_ ?_; · (simp <;> omega)) | (refine ev_condFb rfl ?_ ?_; · (simp <;> omega)) | ((first | refine ev_region ?_ | refine evr_go rfl ?_ | refine evw_go rfl ?_); simp only [go_sem]))
    refine ev_draw (fu := fu8) mixed [] 0 rfl (by kernel_rfl) ?_; simp only [go_sem]
    repeat (first | (simp only [hor]; try simp only [go_sem]) | refine And.intro (by omega) ?_ | refine And.intro rfl ?_ | refine ev_ctl rfl rfl ?_ | refine evr_nil ?_ | refine evw_nil (by kernel_rfl) ?_ | (simp (disch := omega) only [takeAll, Nat.min_eq_left, Nat.min_eq_right, if_pos, if_neg, getD_map, wrapI64, modIn, fdivE, tmodE, tdivE, decT, decF, beqT, beqF, bneT, bneF, Int.toNat_natCast]; try simp only [go_sem]) | (refine ev_condTb rfl ?_ ?_; · (simp <;> omega)) | (refine ev_condFb rfl ?_ ?_; · (simp <;> omega)) | ((first | refine ev_region ?_ | refine evr_go rfl ?_ | refine evw_go rfl ?_ | refine ev_dr0 mixed rfl (by kernel_rfl) ?_ | refine ev_dr1 mixed rfl (by kernel_rfl) ?_ | refine ev_dr2 mixed rfl (by kernel_rfl) ?_); simp only [go_sem]))
    refine ev_obSub 0 _ rfl nt0 rfl ?_
    exact zrt m_rdec_ok
  have b2 := wfs_at hb (k := 2) (by omega)
  have b3 := wfs_at hb (k := 3) (by omega)
  have b4 := wfs_at hb (k := 4) (by omega)
  have b5 := wfs_at hb (k := 5) (by omega)
  have b6 := wfs_at hb (k := 6) (by omega)
  have b7 := wfs_at hb (k := 7) (by omega)
  have hnum := num4_or (k := .i64) (.inr rfl) b4 b5 b6 b7
  have hS : sDec b = if (sEnc (noteOf b)).2 = 0 ∧ (sEnc (noteOf b)).1 = b.take (kOf b + 6).toNat then (noteOf b, kOf b + 6, 0) else (n0, 0, 5) := by rw [sDec, if_neg c1, if_neg (by omega), if_neg (by omega)]
  unfold noteOf at hS
  rw [hk] at hS
  have hYb : ∀ x ∈ List.drop 8 (List.take ((K : Int) + 2).toNat b), inK .u8 x := fun x hx => hb x (List.mem_of_mem_take (List.mem_of_mem_drop hx))
  have hYl : (List.drop 8 (List.take ((K : Int) + 2).toNat b)).length = K - 6 := by simp only [List.length_drop, List.length_take]; omega
  have hTb : ∀ x ∈ List.take ((K : Int) + 6).toNat b, inK .u8 x := fun x hx => hb x (List.mem_of_mem_take hx)
  generalize hnm : num4 b[4]! b[5]! b[6]! b[7]! = nm at hnum hS
  generalize hY : List.drop 8 (List.take ((K : Int) + 2).toNat b) = Y at hYb hYl hS
  generalize hT : List.take ((K : Int) + 6).toNat b = T at hTb hS
  have ef := renc_fn ⟨b[2]!, nm, b[3]!, Y⟩
  have be := str_beq (sEnc_bytes (n := ⟨b[2]!, nm, b[3]!, Y⟩) hYb) hTb
  generalize sEnc ⟨b[2]!, nm, b[3]!, Y⟩ = r at hS ef be
  by_cases c5 : r.2 = 0
  · by_cases c6 : r.1 = T
    · rw [if_pos ⟨c5, c6⟩] at hS
      rw [hS]
      rw [decT c6] at be
      refine Fnc.intro m_rdec_ok (by simp) fun W S => ?_
      simp only [ents, Nat.zero_add, Nat.reduceAdd, Qm, Qc, Ql, QL, Qf, Qs, Qb, Qk, QB, Qn, Qe, Qx, Qt, Qu, Q0, Q1, Qp, Qw, Qq, Qr, Qi]
      repeat (first | (simp only [hor]; try simp only [go_sem]) | refine And.intro (by omega) ?_ | refine And.intro rfl ?_ | refine ev_ctl rfl rfl ?_ | refine evr_nil ?_ | refine evw_nil (by kernel_rfl) ?_ | (simp (disch := omega) only [takeAll, Nat.min_eq_left, Nat.min_eq_right, if_pos, if_neg, getD_map, wrapI64, modIn, fdivE, tmodE, tdivE, decT, decF, beqT, beqF, bneT, bneF, Int.toNat_natCast]; try simp only [go_sem]) | (refine ev_condTb rfl ?_ ?_; · (simp <;> omega)) | (refine ev_condFb rfl ?_ ?_; · (simp <;> omega)) | ((first | refine ev_region ?_ | refine evr_go rfl ?_ | refine evw_go rfl ?_); simp only [go_sem]))
      refine ev_draw (fu := fu8) mixed [] 0 rfl (by kernel_rfl) ?_; simp only [go_sem]
      repeat (first | (simp only [hor]; try simp only [go_sem]) | refine And.intro (by omega) ?_ | refine And.intro rfl ?_ | refine ev_ctl rfl rfl ?_ | refine evr_nil ?_ | refine evw_nil (by kernel_rfl) ?_ | (simp (disch := omega) only [takeAll, Nat.min_eq_left, Nat.min_eq_right, if_pos, if_neg, getD_map, wrapI64, modIn, fdivE, tmodE, tdivE, decT, decF, beqT, beqF, bneT, bneF, Int.toNat_natCast]; try simp only [go_sem]) | (refine ev_condTb rfl ?_ ?_; · (simp <;> omega)) | (refine ev_condFb rfl ?_ ?_; · (simp <;> omega)) | ((first | refine ev_region ?_ | refine evr_go rfl ?_ | refine evw_go rfl ?_); simp only [go_sem]))
      refine ev_draw (fu := fu8) mixed [30] 2 rfl (by kernel_rfl) ?_; simp only [go_sem]
      repeat (first | (simp only [hor, hY, hnum]; try simp only [go_sem]) | refine And.intro (by omega) ?_ | refine And.intro rfl ?_ | refine ev_ctl rfl rfl ?_ | refine evr_nil ?_ | refine evw_nil (by kernel_rfl) ?_ | (simp (disch := omega) only [takeAll, Nat.min_eq_left, Nat.min_eq_right, if_pos, if_neg, getD_map, wrapI64, modIn, fdivE, tmodE, tdivE, decT, decF, beqT, beqF, bneT, bneF, Int.toNat_natCast]; try simp only [go_sem]) | (refine ev_condTb rfl ?_ ?_; · (simp <;> omega)) | (refine ev_condFb rfl ?_ ?_; · (simp <;> omega)) | ((first | refine ev_region ?_ | refine evr_go rfl ?_ | refine evw_gom [30] rfl ?_ | refine ev_dr0 mixed rfl (by kernel_rfl) ?_ | refine ev_dr1 mixed rfl (by kernel_rfl) ?_ | refine ev_dr2 mixed rfl (by kernel_rfl) ?_); simp only [go_sem]))
      (first | refine callD (ef) ?_ | refine callDw (ef) ?_); refine zev ?_
      repeat (first | (simp only [hT, be]; try simp only [go_sem]) | refine And.intro (by omega) ?_ | refine And.intro rfl ?_ | refine ev_ctl rfl rfl ?_ | refine evr_nil ?_ | refine evw_nil (by kernel_rfl) ?_ | (simp (disch := omega) only [takeAll, Nat.min_eq_left, Nat.min_eq_right, if_pos, if_neg, getD_map, wrapI64, modIn, fdivE, tmodE, tdivE, decT, decF, beqT, beqF, bneT, bneF, Int.toNat_natCast]; try simp only [go_sem]) | (refine ev_condTb rfl ?_ ?_; · (simp <;> omega)) | (refine ev_condFb rfl ?_ ?_; · (simp <;> omega)) | ((first | refine ev_region ?_ | refine evr_go rfl ?_ | refine evw_go rfl ?_ | refine ev_dr0 mixed rfl (by kernel_rfl) ?_ | refine ev_dr1 mixed rfl (by kernel_rfl) ?_ | refine ev_dr2 mixed rfl (by kernel_rfl) ?_); simp only [go_sem]))
      exact zrt m_rdec_ok
    · rw [if_neg (fun h => c6 h.2)] at hS
      rw [hS]
      rw [decF c6] at be
      refine Fnc.intro m_rdec_ok (by simp) fun W S => ?_
      simp only [ents, Nat.zero_add, Nat.reduceAdd, Qm, Qc, Ql, QL, Qf, Qs, Qb, Qk, QB, Qn, Qe, Qx, Qt, Qu, Q0, Q1, Qp, Qw, Qq, Qr, Qi]
      repeat (first | (simp only [hor]; try simp only [go_sem]) | refine And.intro (by omega) ?_ | refine And.intro rfl ?_ | refine ev_ctl rfl rfl ?_ | refine evr_nil ?_ | refine evw_nil (by kernel_rfl) ?_ | (simp (disch := omega) only [takeAll, Nat.min_eq_left, Nat.min_eq_right, if_pos, if_neg, getD_map, wrapI64, modIn, fdivE, tmodE, tdivE, decT, decF, beqT, beqF, bneT, bneF, Int.toNat_natCast]; try simp only [go_sem]) | (refine ev_condTb rfl ?_ ?_; · (simp <;> omega)) | (refine ev_condFb rfl ?_ ?_; · (simp <;> omega)) | ((first | refine ev_region ?_ | refine evr_go rfl ?_ | refine evw_go rfl ?_); simp only [go_sem]))
      refine ev_draw (fu := fu8) mixed [] 0 rfl (by kernel_rfl) ?_; simp only [go_sem]
      repeat (first | (simp only [hor]; try simp only [go_sem]) | refine And.intro (by omega) ?_ | refine And.intro rfl ?_ | refine ev_ctl rfl rfl ?_ | refine evr_nil ?_ | refine evw_nil (by kernel_rfl) ?_ | (simp (disch := omega) only [takeAll, Nat.min_eq_left, Nat.min_eq_right, if_pos, if_neg, getD_map, wrapI64, modIn, fdivE, tmodE, tdivE, decT, decF, beqT, beqF, bneT, bneF, Int.toNat_natCast]; try simp only [go_sem]) | (refine ev_condTb rfl ?_ ?_; · (simp <;> omega)) | (refine ev_condFb rfl ?_ ?_; · (simp <;> omega)) | ((first | refine ev_region ?_ | refine evr_go rfl ?_ | refine evw_go rfl ?_); simp only [go_sem]))
      refine ev_draw (fu := fu8) mixed [30] 2 rfl (by kernel_rfl) ?_; simp only [go_sem]
      repeat (first | (simp only [hor, hY, hnum]; try simp only [go_sem]) | refine And.intro (by omega) ?_ | refine And.intro rfl ?_ | refine ev_ctl rfl rfl ?_ | refine evr_nil ?_ | refine evw_nil (by kernel_rfl) ?_ | (simp (disch := omega) only [takeAll, Nat.min_eq_left, Nat.min_eq_right, if_pos, if_neg, getD_map, wrapI64, modIn, fdivE, tmodE, tdivE, decT, decF, beqT, beqF, bneT, bneF, Int.toNat_natCast]; try simp only [go_sem]) | (refine ev_condTb rfl ?_ ?_; · (simp <;> omega)) | (refine ev_condFb rfl ?_ ?_; · (simp <;> omega)) | ((first | refine ev_region ?_ | refine evr_go rfl ?_ | refine evw_gom [30] rfl ?_ | refine ev_dr0 mixed rfl (by kernel_rfl) ?_ | refine ev_dr1 mixed rfl (by kernel_rfl) ?_ | refine ev_dr2 mixed rfl (by kernel_rfl) ?_); simp only [go_sem]))
      (first | refine callD (ef) ?_ | refine callDw (ef) ?_); refine zev ?_
      repeat (first | (simp only [hT, be]; try simp only [go_sem]) | refine And.intro (by omega) ?_ | refine And.intro rfl ?_ | refine ev_ctl rfl rfl ?_ | refine evr_nil ?_ | refine evw_nil (by kernel_rfl) ?_ | (simp (disch := omega) only [takeAll, Nat.min_eq_left, Nat.min_eq_right, if_pos, if_neg, getD_map, wrapI64, modIn, fdivE, tmodE, tdivE, decT, decF, beqT, beqF, bneT, bneF, Int.toNat_natCast]; try simp only [go_sem]) | (refine ev_condTb rfl ?_ ?_; · (simp <;> omega)) | (refine ev_condFb rfl ?_ ?_; · (simp <;> omega)) | ((first | refine ev_region ?_ | refine evr_go rfl ?_ | refine evw_go rfl ?_ | refine ev_dr0 mixed rfl (by kernel_rfl) ?_ | refine ev_dr1 mixed rfl (by kernel_rfl) ?_ | refine ev_dr2 mixed rfl (by kernel_rfl) ?_); simp only [go_sem]))
      refine ev_obSub 0 _ rfl nt0 rfl ?_
      exact zrt m_rdec_ok
  · rw [if_neg (fun h => c5 h.1)] at hS
    rw [hS]
    refine Fnc.intro m_rdec_ok (by simp) fun W S => ?_
    simp only [ents, Nat.zero_add, Nat.reduceAdd, Qm, Qc, Ql, QL, Qf, Qs, Qb, Qk, QB, Qn, Qe, Qx, Qt, Qu, Q0, Q1, Qp, Qw, Qq, Qr, Qi]
    repeat (first | (simp only [hor]; try simp only [go_sem]) | refine And.intro (by omega) ?_ | refine And.intro rfl ?_ | refine ev_ctl rfl rfl ?_ | refine evr_nil ?_ | refine evw_nil (by kernel_rfl) ?_ | (simp (disch := omega) only [takeAll, Nat.min_eq_left, Nat.min_eq_right, if_pos, if_neg, getD_map, wrapI64, modIn, fdivE, tmodE, tdivE, decT, decF, beqT, beqF, bneT, bneF, Int.toNat_natCast]; try simp only [go_sem]) | (refine ev_condTb rfl ?_ ?_; · (simp <;> omega)) | (refine ev_condFb rfl ?_ ?_; · (simp <;> omega)) | ((first | refine ev_region ?_ | refine evr_go rfl ?_ | refine evw_go rfl ?_); simp only [go_sem]))
    refine ev_draw (fu := fu8) mixed [] 0 rfl (by kernel_rfl) ?_; simp only [go_sem]
    repeat (first | (simp only [hor]; try simp only [go_sem]) | refine And.intro (by omega) ?_ | refine And.intro rfl ?_ | refine ev_ctl rfl rfl ?_ | refine evr_nil ?_ | refine evw_nil (by kernel_rfl) ?_ | (simp (disch := omega) only [takeAll, Nat.min_eq_left, Nat.min_eq_right, if_pos, if_neg, getD_map, wrapI64, modIn, fdivE, tmodE, tdivE, decT, decF, beqT, beqF, bneT, bneF, Int.toNat_natCast]; try simp only [go_sem]) | (refine ev_condTb rfl ?_ ?_; · (simp <;> omega)) | (refine ev_condFb rfl ?_ ?_; · (simp <;> omega)) | ((first | refine ev_region ?_ | refine evr_go rfl ?_ | refine evw_go rfl ?_); simp only [go_sem]))
    refine ev_draw (fu := fu8) mixed [30] 2 rfl (by kernel_rfl) ?_; simp only [go_sem]
    repeat (first | (simp only [hor, hY, hnum]; try simp only [go_sem]) | refine And.intro (by omega) ?_ | refine And.intro rfl ?_ | refine ev_ctl rfl rfl ?_ | refine evr_nil ?_ | refine evw_nil (by kernel_rfl) ?_ | (simp (disch := omega) only [takeAll, Nat.min_eq_left, Nat.min_eq_right, if_pos, if_neg, getD_map, wrapI64, modIn, fdivE, tmodE, tdivE, decT, decF, beqT, beqF, bneT, bneF, Int.toNat_natCast]; try simp only [go_sem]) | (refine ev_condTb rfl ?_ ?_; · (simp <;> omega)) | (refine ev_condFb rfl ?_ ?_; · (simp <;> omega)) | ((first | refine ev_region ?_ | refine evr_go rfl ?_ | refine evw_gom [30] rfl ?_ | refine ev_dr0 mixed rfl (by kernel_rfl) ?_ | refine ev_dr1 mixed rfl (by kernel_rfl) ?_ | refine ev_dr2 mixed rfl (by kernel_rfl) ?_); simp only [go_sem]))
    (first | refine callD (ef) ?_ | refine callDw (ef) ?_); refine zev ?_
    repeat (first | (simp only [hT, be]; try simp only [go_sem]) | refine And.intro (by omega) ?_ | refine And.intro rfl ?_ | refine ev_ctl rfl rfl ?_ | refine evr_nil ?_ | refine evw_nil (by kernel_rfl) ?_ | (simp (disch := omega) only [takeAll, Nat.min_eq_left, Nat.min_eq_right, if_pos, if_neg, getD_map, wrapI64, modIn, fdivE, tmodE, tdivE, decT, decF, beqT, beqF, bneT, bneF, Int.toNat_natCast]; try simp only [go_sem]) | (refine ev_condTb rfl ?_ ?_; · (simp <;> omega)) | (refine ev_condFb rfl ?_ ?_; · (simp <;> omega)) | ((first | refine ev_region ?_ | refine evr_go rfl ?_ | refine evw_go rfl ?_ | refine ev_dr0 mixed rfl (by kernel_rfl) ?_ | refine ev_dr1 mixed rfl (by kernel_rfl) ?_ | refine ev_dr2 mixed rfl (by kernel_rfl) ?_); simp only [go_sem]))
    refine ev_obSub 0 _ rfl nt0 rfl ?_
    exact zrt m_rdec_ok
end Go.Proofs.YtdpfglkjhdnbbaaGreat
namespace Go.Proofs.YtdpfglkjhdnbbaaGreat
open Go Go.RowKit Rdn Rdn.Dp
set_option linter.unusedVariables false
set_option linter.unusedSimpArgs false
theorem m_wapp_ok : compF Tryz.prog 34 = some (26, Qr ([Qw 3 (.box 42 (.t 1)), Qp 4 (.mov (.c (.nilS))), Qp 5 (.mov (Qi 0))])
 (Qr ([QL 9 4 3, Qq 10 56 [(.t 9)], Qm 8 10, Qe 11 8 0, Qe 12 8 1, Qm 6 11, Qm 7 12])
 (.seq (Qr ([Qm 13 7, Qk 14 .neq 13 0])
 (.cond (.t 14) (Qr ([Qm 15 7, Qp 4 (.mov (.c (.nilS))), Qm 5 15])
 (.ret)) (.skip)))
 (.seq (Qr ([Qm 16 0, Qn 17 16, Qm 18 6, Qn 19 18, Qb 20 .add 17 19, Qk 21 .gtr 20 262144])
 (.cond (.t 21) (Qr ([Qp 4 (.mov (.c (.nilS))), Qp 5 (.mov (Qi 3))])
 (.ret)) (.skip)))
 (Qr ([Qm 22 0, Qm 23 6, Qw 24 (.buildS 40 1 (.nilS) 2 [(0, (.t 22)), (1, (.t 23))]), Qq 25 67 [(.t 24)], Qm 4 25, Qp 5 (.mov (Qi 0))])
 (.ret))))), [.mov (.t 4), .mov (.t 5)]) := by kernel_rfl
theorem m_rapp_ok : compF Tryz.prog 18 = some (27, Qr ([Qw 3 (.box 42 (.t 1)), Qp 4 (.mov (.c (.nilS))), Qp 5 (.mov (Qi 0))])
 (Qr ([QL 9 4 3, Qq 10 44 [(.t 9)], Qm 8 10, Qe 11 8 0, Qe 12 8 1, Qm 6 11, Qm 7 12])
 (.seq (Qr ([Qm 13 7, Qk 14 .neq 13 0])
 (.cond (.t 14) (Qr ([Qm 15 7, Qp 4 (.mov (.c (.nilS))), Qm 5 15])
 (.ret)) (.skip)))
 (.seq (Qr ([Qm 16 0, Qn 17 16, Qm 18 6, Qn 19 18, Qb 20 .add 17 19, Qk 21 .gtr 20 262144])
 (.cond (.t 21) (Qr ([Qp 4 (.mov (.c (.nilS))), Qp 5 (.mov (Qi 3))])
 (.ret)) (.skip)))
 (Qr ([Qw 22 (.buildS 5 1 (.int .u8 0) 0 []), Qm 23 0, Qw 24 (.app 5 1 1 (.t 22) (.t 23)), Qm 25 6, Qw 26 (.app 5 1 1 (.t 24) (.t 25)), Qm 4 26, Qp 5 (.mov (Qi 0))])
 (.ret))))), [.mov (.t 4), .mov (.t 5)]) := by kernel_rfl
theorem m_wrec_ok : compF Tryz.prog 72 = some (28, Qr ([Qp 2 (.mov (.c (.nilS))), Qp 3 (.mov (Qi 0))])
 (Qr ([Qp 4 (.mov (.c (.nilS)))])
 (Qr ([Qp 5 (.mov (Qi 0))])
 (.block 0 (.loop (.block 1 (Qr ([Qm 10 0, Qm 11 5, Qw 12 (.sl 1 (.t 10) (some (.t 11)) none none), Qq 13 99 [(.t 12)], Qm 9 13, Qe 14 9 0, Qe 15 9 1, Qe 16 9 2, Qw 6 (.alloc 42 (.agg [.int .i64 0, .int .i64 0, .int .i64 0, .nilS])), Qs 4 6 14, Qm 7 15, Qm 8 16])
 (.seq (Qr ([Qm 17 8, Qk 18 .neq 17 0])
 (.cond (.t 18) (Qr ([Qm 19 4, Qm 20 5, Qm 2 19, Qm 3 20])
 (.ret)) (.skip)))
 (.reg [Qm 21 4, QL 22 4 6, Qw 23 (.buildS 42 4 (.agg [.int .i64 0, .int .i64 0, .int .i64 0, .nilS]) 1 [(0, (.t 22))]), Qw 24 (.app 42 4 48 (.t 21) (.t 23)), Qm 25 5, Qm 26 7, Qb 27 .add 25 26, Qm 4 24, Qm 5 27])))))))), [.mov (.t 2), .mov (.t 3)]) := by kernel_rfl
theorem m_rrec_ok : compF Tryz.prog 49 = some (28, Qr ([Qp 2 (.mov (.c (.nilS))), Qp 3 (.mov (Qi 0))])
 (Qr ([Qp 4 (.mov (.c (.nilS)))])
 (Qr ([Qp 5 (.mov (Qi 0))])
 (.block 0 (.loop (.block 1 (Qr ([Qm 10 0, Qm 11 5, Qw 12 (.sl 1 (.t 10) (some (.t 11)) none none), Qq 13 90 [(.t 12)], Qm 9 13, Qe 14 9 0, Qe 15 9 1, Qe 16 9 2, Qw 6 (.alloc 42 (.agg [.int .i64 0, .int .i64 0, .int .i64 0, .nilS])), Qs 4 6 14, Qm 7 15, Qm 8 16])
 (.seq (Qr ([Qm 17 8, Qk 18 .neq 17 0])
 (.cond (.t 18) (Qr ([Qm 19 4, Qm 20 5, Qm 2 19, Qm 3 20])
 (.ret)) (.skip)))
 (Qr ([Qm 21 4, QL 22 4 6, Qw 23 (.buildS 42 4 (.agg [.int .i64 0, .int .i64 0, .int .i64 0, .nilS]) 1 [(0, (.t 22))]), Qw 24 (.app 42 4 48 (.t 21) (.t 23)), Qm 4 24])
 (.reg [Qm 25 5, Qm 26 7, Qb 27 .add 25 26, Qm 5 27]))))))))), [.mov (.t 2), .mov (.t 3)]) := by kernel_rfl
def sApp (j : List Int) (n : Note) : List Int × Int := if (sEnc n).2 ≠ 0 then ([], (sEnc n).2) else if j.length + (sEnc n).1.length > 262144 then ([], 3) else (j ++ (sEnc n).1, 0)
theorem sEnc_len (n : Note) : (sEnc n).1.length ≤ 4012 := by
  unfold sEnc
  split
  · rename_i ok
    have := (chkN_0 ok).2.2.2.2.2.2
    rw [encB_len]; omega
  · simp
theorem flat2 (a b : List Int) : [a, b].flatten = a ++ b := by simp
noncomputable def recF (j : List Int) : Nat → List Note → Nat → List Note × Nat
  | 0, out, at_ => (out, at_)
  | f + 1, out, at_ => if (sDec (j.drop at_)).2.2 ≠ 0 then (out, at_) else recF j f (out ++ [(sDec (j.drop at_)).1]) (at_ + (sDec (j.drop at_)).2.1.toNat)
noncomputable def sRec (j : List Int) : List Note × Nat := recF j (j.length + 1) [] 0
theorem sDec_ok (b : List Int) : (sDec b).2.2 = 0 → 12 ≤ (sDec b).2.1 ∧ (sDec b).2.1 ≤ ((b.length : Nat) : Int) := by
  unfold sDec
  split
  · intro h; simp at h
  · split
    · intro h; simp at h
    · split
      · intro h; simp at h
      · split
        · intro _; dsimp only; omega
        · intro h; simp at h
abbrev noteV (t : Bool) (n : Note) : V := .agg (noteL t n)
instance : Inhabited Note := ⟨⟨0, 0, 0, []⟩⟩
instance (t : Bool) : Lo (noteV t) (noteV false) := ⟨fun _ => rfl, fun o => by simp only [noteV, noteL, V.low, V.lows, lows_lo]⟩
theorem snoc_note (t : Bool) (l : List Note) (n : Note) (r : List V) : l.map (noteV t) ++ (V.agg (noteL t n) :: r) = (l ++ [n]).map (noteV t) ++ r := by simp
attribute [local go_sem] take_mapU drop_mapU List.take_length snoc_note
attribute [local irreducible] sEnc sDec
set_option maxHeartbeats 4000000 in
theorem wapp_fn (j : List Int) (n : Note) : Fnc Tryz.prog 34 [.sl false 1 (u8s j), .agg (noteL false n)] (fun x obs => x = .tup [.sl false 1 (u8s (sApp j n).1), .int .i64 (sApp j n).2] ∧ obs = []) := by
  refine Fnc.wf fun hw => ?_
  simp only [V.wfs, V.wf, List.length_map] at hw
  have hm := hw.1.2
  clear hw
  refine Fnc.low ?_
  have ef := wenc_fn n
  have hl := sEnc_len n
  have hA : sApp j n = if (sEnc n).2 ≠ 0 then ([], (sEnc n).2) else if j.length + (sEnc n).1.length > 262144 then ([], 3) else (j ++ (sEnc n).1, 0) := rfl
  generalize sEnc n = r at ef hl hA
  by_cases c1 : r.2 = 0
  · by_cases c2 : j.length + r.1.length > 262144
    · rw [if_neg (fun h => h c1), if_pos c2] at hA
      rw [hA]
      refine zgo m_wapp_ok fun W S => ?_
      refine zcd (ef) ?_
      refine ev_nil2 4 false 1 rfl ?_
      exact zrt m_wapp_ok
    · rw [if_neg (fun h => h c1), if_neg c2] at hA
      rw [hA]
      refine zgo m_wapp_ok fun W S => ?_
      refine zcd (ef) ?_
      have j1 := join_fn [j, r.1] (by rw [flat2, List.length_append]; omega)
      rw [flat2] at j1
      (first | refine callD (j1) ?_ | refine callDw (j1) ?_); simp only [go_sem, bsV]
      refine zst ?_
      exact zrt m_wapp_ok
  · rw [if_pos c1] at hA
    rw [hA]
    refine zgo m_wapp_ok fun W S => ?_
    refine zcd (ef) ?_
    refine ev_nil2 4 false 1 rfl ?_
    exact zrt m_wapp_ok
set_option maxHeartbeats 4000000 in
theorem rapp_fn (j : List Int) (n : Note) : Fnc Tryz.prog 18 [.sl false 1 (u8s j), .agg (noteL false n)] (fun x obs => x = .tup [.sl false 1 (u8s (sApp j n).1), .int .i64 (sApp j n).2] ∧ obs = []) := by
  refine Fnc.wf fun hw => ?_
  simp only [V.wfs, V.wf, List.length_map] at hw
  have hm := hw.1.2
  clear hw
  refine Fnc.low ?_
  have ef := renc_fn n
  have hl := sEnc_len n
  have hA : sApp j n = if (sEnc n).2 ≠ 0 then ([], (sEnc n).2) else if j.length + (sEnc n).1.length > 262144 then ([], 3) else (j ++ (sEnc n).1, 0) := rfl
  generalize sEnc n = r at ef hl hA
  by_cases c1 : r.2 = 0
  · by_cases c2 : j.length + r.1.length > 262144
    · rw [if_neg (fun h => h c1), if_pos c2] at hA
      rw [hA]
      refine zgo m_rapp_ok fun W S => ?_
      refine zcd (ef) ?_
      refine ev_nil2 4 false 1 rfl ?_
      exact zrt m_rapp_ok
    · rw [if_neg (fun h => h c1), if_neg c2] at hA
      rw [hA]
      refine zgo m_rapp_ok fun W S => ?_
      refine zcd (ef) ?_
      exact zrt m_rapp_ok
  · rw [if_pos c1] at hA
    rw [hA]
    refine zgo m_rapp_ok fun W S => ?_
    refine zcd (ef) ?_
    refine ev_nil2 4 false 1 rfl ?_
    exact zrt m_rapp_ok
set_option maxHeartbeats 4000000 in
theorem wrec_fn (j : List Int) (hj : j.length ≤ 1000000) : Fnc Tryz.prog 72 [.sl false 1 (u8s j)] (fun x obs => x = .tup [.sl false 4 ((sRec j).1.map (noteV false)), .int .i64 (sRec j).2] ∧ obs = []) := by
  obtain ⟨s, hs⟩ : ∃ s, sRec j = s := ⟨_, rfl⟩
  rw [hs]
  refine Fnc.low ?_
  refine zgo m_wrec_ok fun W S => ?_
  refine ev_adopt (i := 4) (e := 42) (s := 4) rfl (by decide) ?_
  refine ev_loopK [0] (fun p : {p : List Note × Nat × Nat × Nat // p.2.1 ≤ j.length ∧ j.length < p.2.1 + p.2.2.1 ∧ p.1.length ≤ p.2.1 ∧ recF j p.2.2.1 p.1 p.2.1 = s} => [(4, .own 0 p.1.2.2.2), (5, .int .i64 p.1.2.1)]) (fun p => [⟨.row 42, true, p.1.2.2.2, .arr 4 (p.1.1.map (noteV false))⟩]) (fun p => j.length - p.1.2.1) (⟨([], 0, j.length + 1, 0), by simp, by simp, by simp, hs⟩) 1 (by simp only [go_sem]; rfl) ?_ (by first | rfl | (simp only [go_sem]; done)) (by simp) (by first | rfl | (simp only [go_sem]; done)) (by first | rfl | (simp only [go_sem]; done)) (by first | rfl | (simp only [go_sem]; done)) ?_
  · (simp only [go_sem]; (try simp []); done)
  intro J hJ
  rintro ⟨⟨out, at_, fu, gr⟩, h1, h2, h3, h4⟩
  dsimp only at h1 h2 h3 h4 ⊢
  have hd := wdec_fn (j.drop at_)
  have hk := sDec_ok (j.drop at_)
  rw [List.length_drop] at hk
  obtain ⟨fu, rfl⟩ : ∃ f, fu = f + 1 := ⟨fu - 1, by omega⟩
  rw [recF] at h4
  generalize sDec (j.drop at_) = r at hd hk h4
  by_cases c : r.2.2 = 0
  · rw [if_neg (fun h => h c)] at h4
    obtain ⟨q, hq⟩ : ∃ q : Nat, r.2.1 = (q : Int) := ⟨r.2.1.toNat, by have := (hk c).1; omega⟩
    have hk := hk c
    rw [hq] at hk h4
    rw [hq] at hd
    rw [Int.toNat_natCast] at h4
    refine zst ?_
    refine zcd (hd) ?_
    refine ev_next 1 (hJ _ (⟨(out ++ [r.1], at_ + q, fu, gr + 1), by dsimp only; omega, by dsimp only; omega, by simp only [List.length_append, List.length_cons, List.length_nil]; omega, h4⟩) (by first | omega | (dsimp only; omega) | (simp; omega))) rfl (by simp) ?_ (by first | rfl | (simp only [go_sem]; done)) (by first | rfl | (simp only [go_sem]; done)) ?_
    · (first | rfl | (simp only [go_sem]; done) | (simp only [go_sem]; simp only []; done) | (simp only []; done) | (simp only [go_sem]; simp []; done) | (simp []; done))
    · (simp only [go_sem]; (repeat' (refine And.intro ?_ ?_)) <;> first | exact trivial | with_reducible rfl | (simp only []; done) | (simp only []; with_reducible rfl) | (simp []; done) | (simp []; omega) | (simp only []; rfl) | skip)
  · rw [if_pos c] at h4
    subst h4
    refine zst ?_
    refine zcd (hd) ?_
    exact zrt m_wrec_ok
set_option maxHeartbeats 4000000 in
theorem rrec_fn (j : List Int) (hj : j.length ≤ 1000000) : Fnc Tryz.prog 49 [.sl false 1 (u8s j)] (fun x obs => x = .tup [.sl false 4 ((sRec j).1.map (noteV false)), .int .i64 (sRec j).2] ∧ obs = []) := by
  obtain ⟨s, hs⟩ : ∃ s, sRec j = s := ⟨_, rfl⟩
  rw [hs]
  refine Fnc.low ?_
  refine zgo m_rrec_ok fun W S => ?_
  refine ev_adopt (i := 4) (e := 42) (s := 4) rfl (by decide) ?_
  refine ev_loopK [0] (fun p : {p : List Note × Nat × Nat × Nat // p.2.1 ≤ j.length ∧ j.length < p.2.1 + p.2.2.1 ∧ p.1.length ≤ p.2.1 ∧ recF j p.2.2.1 p.1 p.2.1 = s} => [(4, .own 0 p.1.2.2.2), (5, .int .i64 p.1.2.1)]) (fun p => [⟨.row 42, true, p.1.2.2.2, .arr 4 (p.1.1.map (noteV false))⟩]) (fun p => j.length - p.1.2.1) (⟨([], 0, j.length + 1, 0), by simp, by simp, by simp, hs⟩) 1 (by simp only [go_sem]; rfl) ?_ (by first | rfl | (simp only [go_sem]; done)) (by simp) (by first | rfl | (simp only [go_sem]; done)) (by first | rfl | (simp only [go_sem]; done)) (by first | rfl | (simp only [go_sem]; done)) ?_
  · (simp only [go_sem]; (try simp []); done)
  intro J hJ
  rintro ⟨⟨out, at_, fu, gr⟩, h1, h2, h3, h4⟩
  dsimp only at h1 h2 h3 h4 ⊢
  have hd := rdec_fn (j.drop at_)
  have hk := sDec_ok (j.drop at_)
  rw [List.length_drop] at hk
  obtain ⟨fu, rfl⟩ : ∃ f, fu = f + 1 := ⟨fu - 1, by omega⟩
  rw [recF] at h4
  generalize sDec (j.drop at_) = r at hd hk h4
  by_cases c : r.2.2 = 0
  · rw [if_neg (fun h => h c)] at h4
    obtain ⟨q, hq⟩ : ∃ q : Nat, r.2.1 = (q : Int) := ⟨r.2.1.toNat, by have := (hk c).1; omega⟩
    have hk := hk c
    rw [hq] at hk h4
    rw [hq] at hd
    rw [Int.toNat_natCast] at h4
    refine zst ?_
    refine zcd (hd) ?_
    refine ev_next 1 (hJ _ (⟨(out ++ [r.1], at_ + q, fu, gr + 1), by dsimp only; omega, by dsimp only; omega, by simp only [List.length_append, List.length_cons, List.length_nil]; omega, h4⟩) (by first | omega | (dsimp only; omega) | (simp; omega))) rfl (by simp) ?_ (by first | rfl | (simp only [go_sem]; done)) (by first | rfl | (simp only [go_sem]; done)) ?_
    · (first | rfl | (simp only [go_sem]; done) | (simp only [go_sem]; simp only []; done) | (simp only []; done) | (simp only [go_sem]; simp []; done) | (simp []; done))
    · (simp only [go_sem]; (repeat' (refine And.intro ?_ ?_)) <;> first | exact trivial | with_reducible rfl | (simp only []; done) | (simp only []; with_reducible rfl) | (simp []; done) | (simp []; omega) | (simp only []; rfl) | skip)
  · rw [if_pos c] at h4
    subst h4
    refine zst ?_
    refine zcd (hd) ?_
    exact zrt m_rrec_ok
end Go.Proofs.YtdpfglkjhdnbbaaGreat
