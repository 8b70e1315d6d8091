/- The law PagesRaw. -/
import Derived.Test.YtcphobeommkgeaaP38
import Derived.Test.YtcphobeommkgeaaC5
import Derived.Test.YtcphobeommkgeaaP26
import Derived.Test.YtcphobeommkgeaaReads
import Derived.Test.YtcphobeommkgeaaC4
namespace Go.Proofs.Ytcphobeommkgeaa
open Go Go.RowKit Rdn Rdn.Dp
set_option linter.unusedVariables false
set_option linter.unusedSimpArgs false
theorem m_Light_ok : compF Try.prog 37 = some (41, Qr ([Qw 1 (.box 30 (.t 0)), Qc 2 (.bool false)])
 (Qr ([Qp 3 (.mov (Qi 0))])
 (.seq (Qr ([Qp 4 (.mov (Qi 0))])
 (.block 0 (.loop (.seq (Qr ([Qm 6 4, Qf 7 0 0 1, Ql 8 1 7, Qn 9 8, Qb 10 .lss 6 9])
 (.cond (.t 10) (.skip) (.exit 0)))
 (.seq (.block 1 (.reg [Qm 13 3, Qk 14 .add 13 4, Qf 15 0 0 1, Ql 16 1 15, Qm 17 4, Qx 18 1 16 17, Ql 19 1 18, Qn 20 19, Qb 21 .add 14 20, Qm 3 21]))
 (.reg [Qm 11 4, Qk 12 .add 11 1, Qm 4 12]))))))
 (.seq (Qr ([Qp 5 (.mov (Qi 0))])
 (.block 2 (.loop (.seq (Qr ([Qm 22 5, Qf 23 1 1 1, Ql 24 1 23, Qn 25 24, Qb 26 .lss 22 25])
 (.cond (.t 26) (.skip) (.exit 2)))
 (.seq (.block 3 (.reg [Qm 29 3, Qk 30 .add 29 10, Qf 31 1 1 1, Ql 32 1 31, Qm 33 5, Qx 34 8 32 33, Qf 35 7 7 34, Ql 36 1 35, Qn 37 36, Qb 38 .add 30 37, Qm 3 38]))
 (.reg [Qm 27 5, Qk 28 .add 27 1, Qm 5 28]))))))
 (Qr ([Qm 39 3, Qk 40 .leq 39 1500, Qm 2 40])
 (.ret))))), [.mov (.t 2)]) := by kernel_rfl
theorem m_Thin_ok : compF Try.prog 38 = some (30, Qr ([Qc 2 (.bool false)])
 (Qr ([Qp 3 (.mov (Qi 0))])
 (.seq (Qr ([Qp 4 (.mov (Qi 0))])
 (.block 0 (.loop (.seq (Qr ([Qm 5 4, Qm 6 0, Qn 7 6, Qb 8 .lss 5 7])
 (.cond (.t 8) (.skip) (.exit 0)))
 (.seq (.block 1 (.dreg [Qm 11 3, Qk 12 .add 11 4, Qm 13 0, Qm 14 4, Qx 15 11 13 14, Qf 16 2 1 15, Ql 17 1 16, Qn 18 17, Qb 19 .add 12 18, Qm 20 0, Qm 21 4, Qx 22 11 20 21, Qf 23 3 2 22, Qf 24 7 7 23, Ql 25 1 24, Qn 26 25, Qb 27 .add 19 26, Qm 3 27] [[], [0], [], [], [2, 3], [2, 3, 4], [2, 3, 4, 5], [2, 3, 4, 5, 6], [0, 1, 2, 3, 4, 5, 6, 7], [], [], [9, 10], [9, 10, 11], [9, 10, 11, 12], [9, 10, 11, 12, 13], [9, 10, 11, 12, 13, 14], [0, 1, 2, 3, 4, 5, 6, 7, 8, 9, 10, 11, 12, 13, 14, 15], [0, 1, 2, 3, 4, 5, 6, 7, 8, 9, 10, 11, 12, 13, 14, 15, 16]]))
 (.reg [Qm 9 4, Qk 10 .add 9 1, Qm 4 10]))))))
 (Qr ([Qm 28 3, Qk 29 .leq 28 1500, Qm 2 29])
 (.ret)))), [.mov (.t 2)]) := by kernel_rfl
theorem m_praw_ok : compF Try.prog 9 = some (89, Qr ([Qw 7 (.box 30 (.t 2)), Qw 8 (.box 45 (.t 3)), Qc 10 (.bool false)])
 (.seq (Qr ([Qm 19 0, Qn 20 19, Qk 21 .gtr 20 100, Qm 22 21, Q0 23 22 (.load true 2 (.t 7)), ⟨(some 24), (some (22, false)), (.call 37 [(.t 23)])⟩, Q0 25 22 (.un .not (.t 24)), Qt 26 22 25, Qm 27 26, Q0 28 27 (.mov (.t 4)), ⟨(some 29), (some (27, false)), (.call 38 [(.t 28)])⟩, Q0 30 27 (.un .not (.t 29)), Qt 31 27 30, Qm 32 31, Q0 33 32 (.load true 11 (.t 8)), ⟨(some 34), (some (32, false)), (.m (.buildS 45 11 (.agg [.agg [.int .i64 0, .int .i64 0], .nilS, .agg [.int .i64 0, .int .i64 0, .int .i64 0, .int .i64 0, .int .i64 0, .int .i64 0, .int .u16 0, .nilS]]) 1 [(0, (.t 33))]))⟩, ⟨(some 35), (some (32, false)), (.call 38 [(.t 34)])⟩, Q0 36 32 (.un .not (.t 35)), Qt 37 32 36])
 (.cond (.t 37) (Qr ([Qq 38 14 [], Qm 10 38])
 (.ret)) (.skip)))
 (Qr ([Qm 40 0, Qm 41 1, Qq 42 39 [(.t 40), (.t 41)], Qm 39 42, Qe 43 39 0, Qe 44 39 1, Qm 11 43, Qm 12 44])
 (Qr ([Qm 46 0, Qm 47 1, Qq 48 40 [(.t 46), (.t 47)], Qm 45 48, Qe 49 45 0, Qe 50 45 1, Qm 13 49, Qm 14 50])
 (Qr ([Qm 52 0, Qm 53 4, Qq 54 33 [(.t 52), (.t 53)], Qm 51 54, Qe 55 51 0, Qe 56 51 1, Qw 15 (.alloc 30 (.agg [.nilS, .nilS])), Qs 2 15 55, Qm 16 56])
 (Qr ([Qm 58 0, Qm 59 4, Qq 60 41 [(.t 58), (.t 59)], Qm 57 60, Qe 61 57 0, Qe 62 57 1, Qw 17 (.alloc 30 (.agg [.nilS, .nilS])), Qs 2 17 61, Qm 18 62])
 (Qr ([Qm 63 12, Qm 64 14, Qb 65 .eql 63 64, Qm 66 65, Q1 67 66 (.mov (.t 16)), Q1 68 66 (.mov (.t 18)), Q1 69 66 (.bin 0 .eql (.t 67) (.t 68)), Qu 70 66 69, Qm 71 70, Q1 72 71 (.mov (.t 11)), Q1 73 71 (.mov (.t 13)), ⟨(some 74), (some (71, true)), (.call 42 [(.t 72), (.t 73)])⟩, Qu 75 71 74, Qm 76 75, Q1 77 76 (.load true 2 (.t 15)), Q1 78 76 (.load true 2 (.t 17)), ⟨(some 79), (some (76, true)), (.call 35 [(.t 77), (.t 78)])⟩, Qu 80 76 79, Qm 81 80, Q1 82 81 (.load true 2 (.t 7)), Q1 83 81 (.load true 11 (.t 8)), ⟨(some 84), (some (81, true)), (.call 43 [(.t 82), (.t 83)])⟩, Qu 85 81 84, Qm 86 85, ⟨(some 87), (some (86, true)), (.call 14 [])⟩, Qu 88 86 87, Qm 10 88])
 (.ret))))))), [.mov (.t 10)]) := by kernel_rfl
def lgA (s : State) : Nat → Int
  | 0 => 0
  | k + 1 => IntKind.i64.wrap (IntKind.i64.wrap (lgA s k + 4) + s.regions[k]!.length)
def lgB (s : State) : Nat → Int
  | 0 => lgA s s.regions.length
  | k + 1 => IntKind.i64.wrap (IntKind.i64.wrap (lgB s k + 10) + s.threads[k]!.regs.length)
set_option maxHeartbeats 4000000 in
theorem Light_fn (s : State) : Fnc Try.prog 37 [staV s] (fun x obs => x = .bool (decide (lgB s s.threads.length ≤ 1500)) ∧ obs = []) := by
  refine Fnc.wf fun hw => ?_
  simp only [V.wfs, V.wf, wfs_map, List.length_map] at hw
  have hm := hw.1.1.2
  have hm2 := hw.1.2.1.2
  clear hw
  refine zgo m_Light_ok fun W S => ?_
  refine ev_loopK [1] (fun p : {p : Nat // p ≤ s.regions.length} => [(3, .int .i64 (lgA s p.1)), (4, .int .i64 p.1)]) (fun _ => [⟨.box false 30, true, 0, staV s⟩]) (fun p => s.regions.length - p.1) (⟨0, by simp⟩) 1 (by simp only [go_sem]; rfl) ?_ (by first | rfl | (simp only [go_sem]; done) | (simp only [go_sem]; simp [lgA]; done)) (by simp) (by first | rfl | (simp only [go_sem]; done)) (by first | rfl | (simp only [go_sem]; done)) (by first | rfl | (simp only [go_sem]; done) | (simp only [lgA]; (try simp only [go_sem]); first | done | rfl)) ?_
  · (simp only [go_sem]; (try simp [lgA]); done)
  intro J hJ
  rintro ⟨k, hk0⟩
  by_cases hlt : k < s.regions.length
  · skip
    refine zst ?_
    refine ev_next 1 (hJ _ (⟨k + 1, hlt⟩) (by first | omega | (dsimp only; omega) | (simp; omega))) rfl (by simp) ?_ (by first | rfl | (simp only [go_sem]; done)) (by first | rfl | (simp only [go_sem]; done) | (simp only [lgA]; (try simp only [go_sem]); first | done | rfl)) ?_
    · (first | rfl | (simp only [go_sem]; done) | (simp only [go_sem]; simp only [lgA]; done) | (simp only [lgA]; done) | (simp only [go_sem]; simp [lgA]; done) | (simp [lgA]; done))
    · (simp only [go_sem]; (repeat' (refine And.intro ?_ ?_)) <;> first | exact trivial | with_reducible rfl | (simp only [lgA]; done) | (simp only [lgA]; with_reducible rfl) | (simp [lgA]; done) | (simp [lgA]; omega) | (simp only [lgA]; rfl) | skip)
  · obtain rfl : k = s.regions.length := by omega
    have hz : lgA s s.regions.length = lgB s 0 := rfl
    refine zst ?_
    refine ev_loopK [1] (fun p : {p : Nat // p ≤ s.threads.length} => [(3, .int .i64 (lgB s p.1)), (5, .int .i64 p.1)]) (fun _ => [⟨.box false 30, true, 0, staV s⟩]) (fun p => s.threads.length - p.1) (⟨0, by simp⟩) 1 (by simp only [go_sem]; rfl) ?_ (by first | rfl | (simp only [go_sem]; done) | (simp only [go_sem]; simp [lgB]; done)) (by simp) (by first | rfl | (simp only [go_sem]; done)) (by first | rfl | (simp only [go_sem]; done)) (by first | rfl | (simp only [go_sem]; done) | (simp only [lgB]; (try simp only [go_sem]); first | done | rfl)) ?_
    · (simp only [go_sem]; (try simp [lgB]); done)
    intro J hJ
    rintro ⟨k, hk0⟩
    by_cases hlt : k < s.threads.length
    · skip
      refine zst ?_
      refine ev_next 1 (hJ _ (⟨k + 1, hlt⟩) (by first | omega | (dsimp only; omega) | (simp; omega))) rfl (by simp) ?_ (by first | rfl | (simp only [go_sem]; done)) (by first | rfl | (simp only [go_sem]; done) | (simp only [lgB]; (try simp only [go_sem]); first | done | rfl)) ?_
      · (first | rfl | (simp only [go_sem]; done) | (simp only [go_sem]; simp only [lgB]; done) | (simp only [lgB]; done) | (simp only [go_sem]; simp [lgB]; done) | (simp [lgB]; done))
      · (simp only [go_sem]; (repeat' (refine And.intro ?_ ?_)) <;> first | exact trivial | with_reducible rfl | (simp only [lgB]; done) | (simp only [lgB]; with_reducible rfl) | (simp [lgB]; done) | (simp [lgB]; omega) | (simp only [lgB]; rfl) | skip)
    · obtain rfl : k = s.threads.length := by omega
      refine zst ?_
      exact zrt m_Light_ok
theorem lowS_bd {s : State} (h : State.sh.bd s) : LowS s := by
  have h1 : s.regions.length * 24 ≤ 140737488351232 := h.1.1
  have h2 : s.threads.length * 80 ≤ 140737488351232 := h.2.1.1
  refine ⟨by omega, fun x hx => ?_, by omega, fun x hx => ?_⟩
  · have h3 : x.length * 24 ≤ 140737488351232 := (h.1.2 x hx).1
    omega
  · have h3 : x.regs.length * 24 ≤ 140737488351232 := (h.2.1.2 x hx).2.2.2.2.2.2.2.1.1
    omega
def thn (l : List Page) : Nat → Int
  | 0 => 0
  | k + 1 => IntKind.i64.wrap (IntKind.i64.wrap (IntKind.i64.wrap (thn l k + 4) + l[k]!.cells.length) + l[k]!.view.regs.length)
set_option maxHeartbeats 4000000 in
theorem Thin_fn (l : List Page) : Fnc Try.prog 38 [.sl false 11 (l.map (pgV false))] (fun x obs => x = .bool (decide (thn l l.length ≤ 1500)) ∧ obs = []) := by
  refine Fnc.wf fun hw => ?_
  simp only [V.wfs, V.wf, wfs_map, List.length_map] at hw
  have hm := hw.1.2
  clear hw
  have hz : thn l 0 = 0 := rfl
  refine zgo m_Thin_ok fun W S => ?_
  refine ev_loopK [0] (fun p : {p : Nat // p ≤ l.length} => [(3, .int .i64 (thn l p.1)), (4, .int .i64 p.1)]) (fun _ => []) (fun p => l.length - p.1) (⟨0, by simp⟩) 0 (by simp only [go_sem]; rfl) ?_ (by first | rfl | (simp only [go_sem]; done) | (simp only [go_sem]; simp [thn]; done)) (by simp) (by first | rfl | (simp only [go_sem]; done)) (by first | rfl | (simp only [go_sem]; done)) (by first | rfl | (simp only [go_sem]; done) | (simp only [thn]; (try simp only [go_sem]); first | done | rfl)) ?_
  · (simp only [go_sem]; (try simp [thn]); done)
  intro J hJ
  rintro ⟨k, hk0⟩
  by_cases hlt : k < l.length
  · skip
    refine zst ?_
    refine ev_next 0 (hJ _ (⟨k + 1, hlt⟩) (by first | omega | (dsimp only; omega) | (simp; omega))) rfl (by simp) ?_ (by first | rfl | (simp only [go_sem]; done)) (by first | rfl | (simp only [go_sem]; done) | (simp only [thn]; (try simp only [go_sem]); first | done | rfl)) ?_
    · (first | rfl | (simp only [go_sem]; done) | (simp only [go_sem]; simp only [thn]; done) | (simp only [thn]; done) | (simp only [go_sem]; simp [thn]; done) | (simp [thn]; done))
    · (simp only [go_sem]; (repeat' (refine And.intro ?_ ?_)) <;> first | exact trivial | with_reducible rfl | (simp only [thn]; done) | (simp only [thn]; with_reducible rfl) | (simp [thn]; done) | (simp [thn]; omega) | (simp only [thn]; rfl) | skip)
  · obtain rfl : k = l.length := by omega
    refine zst ?_
    exact zrt m_Thin_ok
theorem thn_one {p : Page} (h1 : p.cells.length ≤ 5864062014634) (h2 : p.view.regs.length ≤ 5864062014634) (h : thn [p] [p].length ≤ 1500) : p.cells.length ≤ 1000000 ∧ p.view.regs.length ≤ 1000000 := by
  have e : thn [p] [p].length = IntKind.i64.wrap (IntKind.i64.wrap (IntKind.i64.wrap (0 + 4) + p.cells.length) + p.view.regs.length) := rfl
  rw [e, wrapI64 (e := 0 + 4) (by omega) (by omega), wrapI64 (e := 0 + 4 + (p.cells.length : Int)) (by omega) (by omega), wrapI64 (by omega) (by omega)] at h
  omega
theorem page_bd {p : Page} (h : Page.sh.bd p) : p.cells.length ≤ 5864062014634 ∧ p.view.regs.length ≤ 5864062014634 := by
  have h1 : p.cells.length * 24 ≤ 140737488351232 := h.2.1.1
  have h2 : p.view.regs.length * 24 ≤ 140737488351232 := h.2.2.1.2.2.2.2.2.2.2.1.1
  omega
attribute [local irreducible] idsF shp sSet sGet sAll sBuild sList thn lgB
set_option maxHeartbeats 16000000 in
theorem praw_fn (z : List Int) (n : Int) (s : State) (p : Page) (l : List Page) (bs : State.sh.bd s) (bp : Page.sh.bd p) (bl : (Sh.slice Page.sh).bd l) : Fnc Try.prog 9 [.sl false 1 (i64s z), .int .i64 n, staV s, pgV false p, .sl false 11 (l.map (pgV false))] (fun x obs => x = .bool true) := by
  refine Fnc.wf fun hw => ?_
  simp only [V.wfs, V.wf, wfs_map, List.length_map] at hw
  have hm := hw.1.2
  clear hw
  have L := lowS_bd bs
  have fa := awake25_fn
  have f1 := Light_fn s
  have f2 := Thin_fn l
  have f3 := Thin_fn [p]
  by_cases c0 : 100 < z.length
  · skip
    refine zgo m_praw_ok fun W S => ?_
    refine zcd (fa) ?_
    exact zrt m_praw_ok
  by_cases c1 : lgB s s.threads.length ≤ 1500
  rotate_left
  · rw [decF c1] at f1
    refine zgo m_praw_ok fun W S => ?_
    refine zcd (f1) ?_
    refine zcd (fa) ?_
    exact zrt m_praw_ok
  by_cases c2 : thn l l.length ≤ 1500
  rotate_left
  · rw [decT c1] at f1
    rw [decF c2] at f2
    refine zgo m_praw_ok fun W S => ?_
    refine zcd (f1) ?_
    refine zcd (f2) ?_
    refine zcd (fa) ?_
    exact zrt m_praw_ok
  rw [decT c1] at f1
  rw [decT c2] at f2
  by_cases c3 : thn [p] [p].length ≤ 1500
  rotate_left
  · rw [decF c3] at f3
    refine zgo m_praw_ok fun W S => ?_
    refine zcd (f1) ?_
    refine zcd (f2) ?_
    refine evr_calmA ?_; refine zev ?_
    refine zcd (f3) ?_
    refine zcd (fa) ?_
    exact zrt m_praw_ok
  obtain ⟨b1, b2⟩ := page_bd bp
  obtain ⟨h1, h2⟩ := thn_one b1 b2 c3
  rw [decT c3] at f3
  have hbl : ∀ q ∈ l, q.view.regs.length ≤ 5864062014634 := fun q hq => (page_bd (bl.2 q hq)).2
  have g1 := plist_fn z n
  have g2 := zlist_fn z n
  have g3 := pbuild_fn z l (by omega) hbl
  have g4 := zbuild_fn z l (by omega) hbl
  generalize sList z n = a at g1 g2
  generalize sBuild z l = b at g3 g4
  obtain ⟨a1, a2⟩ := a
  obtain ⟨b1, b2⟩ := b
  dsimp only at g1 g2 g3 g4
  have g5 := sids_fn a1
  have g6 := rsame_fn b1 b1
  rw [decT rfl] at g6
  have g7 := agree25_fn s p L h1 h2
  refine zgo m_praw_ok fun W S => ?_
  refine zcd (f1) ?_
  refine zcd (f2) ?_
  refine evr_calmA ?_; refine zev ?_
  refine zcd (f3) ?_
  refine zcd (g1) ?_
  refine zcd (g2) ?_
  refine zcd (g3) ?_
  refine zcd (g4) ?_
  refine zcd (g5) ?_
  refine zcd (g6) ?_
  refine zcd (g7) ?_
  refine zcd (fa) ?_
  exact zrt m_praw_ok
theorem enc_state : Enc State.sh (fun s => .agg [.sl false 1 (s.regions.map (slV' false 4 canonV)), .sl false 8 (s.threads.map (viewV false))]) := Enc.struct (EncL.cons (Enc.slice enc_canons (fun _ => rfl) (fun _ => rfl)) (EncL.cons (Enc.slice enc_view (fun _ => rfl) (fun _ => rfl)) EncL.unit)) _
theorem enc_pid : Enc PageID.sh (fun d => pidV d) := Enc.struct (EncL.cons (Enc.int _) (EncL.cons (Enc.int _) EncL.unit)) _
theorem enc_page : Enc Page.sh (fun p => pgV false p) := Enc.struct (EncL.cons enc_pid (EncL.cons enc_canons (EncL.cons enc_view EncL.unit))) _
theorem enc_pages : Enc (Sh.slice Page.sh) (fun l => .sl false Page.sh.size (l.map fun p => pgV false p)) := Enc.slice enc_page (fun _ => rfl) (fun _ => rfl)
theorem praw_law {a0 : List Int} {v0 : Value} {a1 : Int} {v1 : Value} {a2 : State} {c2 : Array Value} {a3 : Page} {c3 : Array Value} {a4 : List Page} {v4 : Value} (W : World) (e0 : (Sh.slice (Sh.int .i64)).rd (old W) W a0 [v0]) (e1 : (Sh.int .i64).rd (old W) W a1 [v1]) (e2 : State.sh.rd (old W) W a2 c2.toList) (e3 : Page.sh.rd (old W) W a3 c3.toList) (e4 : (Sh.slice Page.sh).rd (old W) W a4 [v4]) (b2 : State.sh.bd a2) (b3 : Page.sh.bd a3) (b4 : (Sh.slice Page.sh).bd a4) :
    Calls Try.prog 9 #[v0, v1, .agg c2, .agg c3, v4] W fun e w' => e = .returned (.bool true) ∧ Below W.heap.size W w' :=
  Fnc.law (praw_fn a0 a1 a2 a3 a4 b2 b3 b4) (RdTs.slice enc_i64s e0 (RdTs.int e1 (RdTs.agg enc_state e2 (RdTs.agg enc_page e3 (RdTs.slice enc_pages e4 RdTs.nil')))))
end Go.Proofs.Ytcphobeommkgeaa
