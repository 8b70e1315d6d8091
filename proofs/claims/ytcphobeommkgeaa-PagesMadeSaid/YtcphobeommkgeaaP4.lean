/- States drawn. -/
import Derived.Test.YtcphobeommkgeaaP1
import Derived.Test.YtcphobeommkgeaaC5
import Derived.Test.YtcphobeommkgeaaF1
namespace Go.Proofs.Ytcphobeommkgeaa
open Go Go.RowKit Rdn Rdn.Dp
set_option linter.unusedVariables false
set_option linter.unusedSimpArgs false
theorem m_scell_ok : compF Try.prog 51 = some (15, Qr ([Qw 2 (.alloc 84 (.agg [.int .u8 0, .int .u16 0, .int .i64 0, .int .i64 0]))])
 (.seq (Qr ([Qm 3 0, Qq 4 19 [(.t 3), (Qi 5)], Qk 5 .eql 4 4])
 (.cond (.t 5) (Qr ([Qm 6 0, Qq 7 19 [(.t 6), (Qi 3)], Qm 8 0, Qq 9 19 [(.t 8), (Qi 8)], Qw 10 (.build none [.int .u8 0, .int .u16 0, .int .i64 0, .int .i64 0] [(0, (.c (.int .u8 1))), (2, (.t 7)), (3, (.t 9))]), Qs 4 2 10])
 (.ret)) (.skip)))
 (Qr ([Qm 11 0, Qq 12 19 [(.t 11), (Qi 40)], Qp 13 (.conv .u16 (.t 12)), Qw 14 (.build none [.int .u8 0, .int .u16 0, .int .i64 0, .int .i64 0] [(1, (.t 13))]), Qs 4 2 14])
 (.ret))), [.load true 4 (.t 2)]) := by kernel_rfl
theorem m_sview_ok : compF Try.prog 44 = some (35, Qr ([Qw 2 (.alloc 43 (.agg [.int .i64 0, .int .i64 0, .int .i64 0, .int .i64 0, .int .i64 0, .int .i64 0, .int .u16 0, .nilS]))])
 (Qr ([Qm 5 0, Qq 6 19 [(.t 5), (Qi 5)], Qm 7 0, Qq 8 19 [(.t 7), (Qi 20)], Qm 9 0, Qq 10 19 [(.t 9), (Qi 30)], Qm 11 0, Qq 12 19 [(.t 11), (Qi 4)], Qk 13 .sub 12 1, Qm 14 0, Qq 15 19 [(.t 14), (Qi 4)], Qk 16 .sub 15 1, Qm 17 0, Qq 18 19 [(.t 17), (Qi 7)], Qm 19 0, Qq 20 19 [(.t 19), (Qi 9)], Qp 21 (.conv .u16 (.t 20)), Qw 22 (.build none [.int .i64 0, .int .i64 0, .int .i64 0, .int .i64 0, .int .i64 0, .int .i64 0, .int .u16 0, .nilS] [(0, (.t 6)), (1, (.t 8)), (2, (.t 10)), (3, (.t 13)), (4, (.t 16)), (5, (.t 18)), (6, (.t 21))]), Qw 3 (.alloc 43 (.agg [.int .i64 0, .int .i64 0, .int .i64 0, .int .i64 0, .int .i64 0, .int .i64 0, .int .u16 0, .nilS])), Qs 8 3 22])
 (.seq (Qr ([Qp 4 (.mov (Qi 0))])
 (.block 0 (.loop (.seq (Qr ([Qm 23 4, Qk 24 .lss 23 8])
 (.cond (.t 24) (.skip) (.exit 0)))
 (.seq (.block 1 (.dreg [Qf 27 7 7 3, Ql 28 1 27, Qm 29 0, Qq 30 51 [(.t 29)], Qw 31 (.buildS 84 4 (.agg [.int .u8 0, .int .u16 0, .int .i64 0, .int .i64 0]) 1 [(0, (.t 30))]), Qw 32 (.app 84 4 24 (.t 28) (.t 31)), Qf 33 7 7 3, Qs 1 33 32] [[], [0], [], [2], [2, 3], [0, 1, 2, 3, 4], [0, 1, 2, 3, 4, 5], [0, 1, 2, 3, 4, 5, 6]]))
 (.reg [Qm 25 4, Qk 26 .add 25 1, Qm 4 26]))))))
 (Qr ([QL 34 8 3, Qs 8 2 34])
 (.ret)))), [.load true 8 (.t 2)]) := by kernel_rfl
theorem m_sstate_ok : compF Try.prog 16 = some (45, Qr ([Qw 2 (.alloc 30 (.agg [.nilS, .nilS]))])
 (Qr ([Qw 3 (.alloc 30 (.agg [.nilS, .nilS]))])
 (.seq (Qr ([Qm 8 0, Qq 9 19 [(.t 8), (Qi 3)], Qm 4 9])
 (.block 0 (.loop (.seq (Qr ([Qm 10 4, Qk 11 .geq 10 0])
 (.cond (.t 11) (.skip) (.exit 0)))
 (.seq (.block 1 (Qr ([Qp 5 (.mov (.c (.nilS)))])
 (.seq (Qr ([Qm 14 0, Qq 15 19 [(.t 14), (Qi 24)], Qm 6 15])
 (.block 2 (.loop (.seq (Qr ([Qm 16 6, Qk 17 .geq 16 0])
 (.cond (.t 17) (.skip) (.exit 2)))
 (.seq (.block 3 (.reg [Qm 20 5, Qm 21 0, Qq 22 51 [(.t 21)], Qw 23 (.buildS 84 4 (.agg [.int .u8 0, .int .u16 0, .int .i64 0, .int .i64 0]) 1 [(0, (.t 22))]), Qw 24 (.app 84 4 24 (.t 20) (.t 23)), Qm 5 24]))
 (.reg [Qm 18 6, Qk 19 .sub 18 1, Qm 6 19]))))))
 (.reg [Qf 25 0 0 3, Ql 26 1 25, Qm 27 5, Qw 28 (.buildS 40 1 (.nilS) 1 [(0, (.t 27))]), Qw 29 (.app 40 1 24 (.t 26) (.t 28)), Qf 30 0 0 3, Qs 1 30 29]))))
 (.reg [Qm 12 4, Qk 13 .sub 12 1, Qm 4 13]))))))
 (.seq (Qr ([Qm 31 0, Qq 32 19 [(.t 31), (Qi 4)], Qm 7 32])
 (.block 4 (.loop (.seq (Qr ([Qm 33 7, Qk 34 .gtr 33 0])
 (.cond (.t 34) (.skip) (.exit 4)))
 (.seq (.block 5 (.dreg [Qf 37 1 1 3, Ql 38 1 37, Qm 39 0, Qq 40 44 [(.t 39)], Qw 41 (.buildS 43 8 (.agg [.int .i64 0, .int .i64 0, .int .i64 0, .int .i64 0, .int .i64 0, .int .i64 0, .int .u16 0, .nilS]) 1 [(0, (.t 40))]), Qw 42 (.app 43 8 80 (.t 38) (.t 41)), Qf 43 1 1 3, Qs 1 43 42] [[], [0], [], [2], [2, 3], [0, 1, 2, 3, 4], [0, 1, 2, 3, 4, 5], [0, 1, 2, 3, 4, 5, 6]]))
 (.reg [Qm 35 7, Qk 36 .sub 35 1, Qm 7 36]))))))
 (Qr ([QL 44 2 3, Qs 2 2 44])
 (.ret))))), [.load true 2 (.t 2)]) := by kernel_rfl
/-- A cell, drawn at a position. -/
def sc1 (l : List Int) (k : Nat) : Canon × Nat :=
  if dnx l k 5 = 4 then (⟨1, 0, dnx l (dkx l k) 3, dnx l (dkx l (dkx l k)) 8⟩, dkx l (dkx l (dkx l k))) else (⟨0, dnx l (dkx l k) 40, 0, 0⟩, dkx l (dkx l k))
theorem sc1_le {l : List Int} (k : Nat) (h : k ≤ l.length) : (sc1 l k).2 ≤ l.length := by
  unfold sc1
  split
  · exact dkx_le (dkx_le (dkx_le h))
  · exact dkx_le (dkx_le h)
set_option maxHeartbeats 4000000 in
theorem scell_fn (l : List Int) (k : Nat) (hk : k ≤ l.length) : FncM Try.prog 51 91 (deckV l k) [] (fun x obs c => x = canonV (sc1 l k).1 ∧ obs = [] ∧ c = deckV l (sc1 l k).2) := by
  have hk1 := dkx_le hk
  have hk2 := dkx_le hk1
  have h1 := dnx_ge (l := l) (k := dkx l k) (n := 40) (by omega)
  have h2 := dnx_lt (l := l) (k := dkx l k) (n := 40) (by omega)
  have hd : sc1 l k = sc1 l k := rfl
  conv at hd => rhs; unfold sc1
  by_cases c4 : dnx l k 5 = 4
  · rw [if_pos c4] at hd
    refine zgM m_scell_ok fun W S b0 hb0 => ?_
    refine zcm (next_fn l k 5 hk (by omega)) ?_
    refine zcm (next_fn l _ 3 hk1 (by omega)) ?_
    refine zcm (next_fn l _ 8 hk2 (by omega)) ?_
    exact zrn hb0 m_scell_ok hd
  · rw [if_neg c4] at hd
    refine zgM m_scell_ok fun W S b0 hb0 => ?_
    refine zcm (next_fn l k 5 hk (by omega)) ?_
    refine zcm (next_fn l _ 40 hk1 (by omega)) ?_
    exact zrn hb0 m_scell_ok hd
def k7 (l : List Int) (k : Nat) : Nat := dkx l (dkx l (dkx l (dkx l (dkx l (dkx l (dkx l k))))))
/-- A view. -/
def sv1 (l : List Int) (k : Nat) : View × Nat :=
  (⟨dnx l k 5, dnx l (dkx l k) 20, dnx l (dkx l (dkx l k)) 30, dnx l (dkx l (dkx l (dkx l k))) 4 - 1, dnx l (dkx l (dkx l (dkx l (dkx l k)))) 4 - 1, dnx l (dkx l (dkx l (dkx l (dkx l (dkx l k))))) 7, dnx l (dkx l (dkx l (dkx l (dkx l (dkx l (dkx l k)))))) 9, (drw (sc1 l) (k7 l k) 8).1⟩, (drw (sc1 l) (k7 l k) 8).2)
theorem k7_le {l : List Int} {k : Nat} (h : k ≤ l.length) : k7 l k ≤ l.length := dkx_le (dkx_le (dkx_le (dkx_le (dkx_le (dkx_le (dkx_le h))))))
theorem sv1_le {l : List Int} (k : Nat) (h : k ≤ l.length) : (sv1 l k).2 ≤ l.length := drw_le (f := sc1 l) (m := l.length) sc1_le (k7_le h) _
theorem sv1_regs (l : List Int) (k : Nat) : (sv1 l k).1.regs.length = 8 := drw_len _ _ _
set_option maxHeartbeats 8000000 in
theorem sview_fn (l : List Int) (k : Nat) (hk : k ≤ l.length) : FncM Try.prog 44 91 (deckV l k) [] (fun x obs c => x = viewV true (sv1 l k).1 ∧ obs = [] ∧ c = deckV l (sv1 l k).2) := by
  have p1 := dkx_le hk
  have p2 := dkx_le p1
  have p3 := dkx_le p2
  have p4 := dkx_le p3
  have p5 := dkx_le p4
  have p6 := dkx_le p5
  have p7 := k7_le hk
  have d1 := dnx_ge (l := l) (k := dkx l (dkx l (dkx l k))) (n := 4) (by omega)
  have d2 := dnx_ge (l := l) (k := dkx l (dkx l (dkx l (dkx l k)))) (n := 4) (by omega)
  have d1' := dnx_lt (l := l) (k := dkx l (dkx l (dkx l k))) (n := 4) (by omega)
  have d2' := dnx_lt (l := l) (k := dkx l (dkx l (dkx l (dkx l k)))) (n := 4) (by omega)
  have d3 := dnx_ge (l := l) (k := dkx l (dkx l (dkx l (dkx l (dkx l (dkx l k)))))) (n := 9) (by omega)
  have d3' := dnx_lt (l := l) (k := dkx l (dkx l (dkx l (dkx l (dkx l (dkx l k)))))) (n := 9) (by omega)
  have hk7 : dkx l (dkx l (dkx l (dkx l (dkx l (dkx l (dkx l k)))))) = k7 l k := rfl
  have hd : sv1 l k = (⟨dnx l k 5, dnx l (dkx l k) 20, dnx l (dkx l (dkx l k)) 30, dnx l (dkx l (dkx l (dkx l k))) 4 - 1, dnx l (dkx l (dkx l (dkx l (dkx l k)))) 4 - 1, dnx l (dkx l (dkx l (dkx l (dkx l (dkx l k))))) 7, dnx l (dkx l (dkx l (dkx l (dkx l (dkx l (dkx l k)))))) 9, (drw (sc1 l) (k7 l k) 8).1⟩, (drw (sc1 l) (k7 l k) 8).2) := rfl
  refine zgM m_sview_ok fun W S b0 hb0 => ?_
  refine zcm (next_fn l k 5 hk (by omega)) ?_
  refine zcm (next_fn l _ 20 p1 (by omega)) ?_
  refine zcm (next_fn l _ 30 p2 (by omega)) ?_
  refine zcm (next_fn l _ 4 p3 (by omega)) ?_
  refine zcm (next_fn l _ 4 p4 (by omega)) ?_
  refine zcm (next_fn l _ 7 p5 (by omega)) ?_
  refine zcm (next_fn l _ 9 p6 (by omega)) ?_
  rw [hk7]
  generalize dnx l k 5 = a1 at hd
  generalize dnx l (dkx l k) 20 = a2 at hd
  generalize dnx l (dkx l (dkx l k)) 30 = a3 at hd
  generalize dnx l (dkx l (dkx l (dkx l k))) 4 - 1 = a4 at hd
  generalize dnx l (dkx l (dkx l (dkx l (dkx l k)))) 4 - 1 = a5 at hd
  generalize dnx l (dkx l (dkx l (dkx l (dkx l (dkx l k))))) 7 = a6 at hd
  generalize dnx l (dkx l (dkx l (dkx l (dkx l (dkx l (dkx l k)))))) 9 = a7 at hd
  generalize k7 l k = K at hd p7
  rw [hd]
  refine ev_adoptB 2 7 84 4 rfl rfl (by decide) rfl ?_
  refine ev_loopK [0, 2, 3] (fun p : {p : Nat // p ≤ 8} => [(4, .int .i64 p.1)]) (fun p => [⟨.box true 91, true, 0, deckV l (drw (sc1 l) K p.1).2⟩, ⟨.box false 43, true, 0, .agg [.int .i64 0, .int .i64 0, .int .i64 0, .int .i64 0, .int .i64 0, .int .i64 0, .int .u16 0, .nilS]⟩, ⟨.box false 43, true, 0, .agg [.int .i64 a1, .int .i64 a2, .int .i64 a3, .int .i64 a4, .int .i64 a5, .int .i64 a6, .int .u16 a7, .own 3 p.1]⟩, ⟨.row 84, true, p.1, .arr 4 ((drw (sc1 l) K p.1).1.map canonV)⟩]) (fun p => 8 - p.1) (⟨0, by simp⟩) 4 (by simp only [go_sem]; rfl) ?_ (by first | rfl | (simp only [go_sem]; done) | (simp only [go_sem]; simp [drw]; done)) (by simp) (by first | rfl | (simp only [go_sem]; done)) (by first | rfl | (simp only [go_sem]; done)) (by first | rfl | (simp only [go_sem]; done) | (simp only [drw]; (try simp only [go_sem]); first | done | rfl)) ?_
  · (simp only [go_sem]; (try simp [drw]); done)
  intro J hJ
  rintro ⟨i, hi⟩
  have hp := drw_le (f := sc1 l) (m := l.length) sc1_le p7 i
  have hlen := drw_len (sc1 l) K i
  by_cases hlt : i < 8
  · skip
    generalize hq : drw (sc1 l) K i = q at hp hlen
    have hd' : drw (sc1 l) K (i + 1) = (q.1 ++ [(sc1 l q.2).1], (sc1 l q.2).2) := by rw [drw, hq]
    refine zst ?_
    refine zcm (scell_fn l q.2 hp) ?_
    refine ev_next 4 (hJ _ (⟨i + 1, hlt⟩) (by first | omega | (dsimp only; omega) | (simp; omega))) rfl (by simp) ?_ (by first | rfl | (simp only [go_sem]; done)) (by first | rfl | (simp only [go_sem]; done) | (simp only [hd']; (try simp only [go_sem]); first | done | rfl)) ?_
    · (first | rfl | (simp only [go_sem]; done) | (simp only [go_sem]; simp only [hd']; done) | (simp only [hd']; done) | (simp only [go_sem]; simp [hd']; done) | (simp [hd']; done))
    · (simp only [go_sem]; (repeat' (refine And.intro ?_ ?_)) <;> first | exact trivial | with_reducible rfl | (simp only [hd']; done) | (simp only [hd']; with_reducible rfl) | (simp [hd']; done) | (simp [hd']; omega) | (simp only [hd']; rfl) | skip)
  · obtain rfl : i = 8 := by omega
    refine zst ?_
    exact zrm hb0 m_sview_ok
/-- A region. -/
def srg (l : List Int) (k : Nat) : List Canon × Nat := drw (sc1 l) (dkx l k) ((dnx l k 24).toNat + 1)
theorem srg_le {l : List Int} (k : Nat) (h : k ≤ l.length) : (srg l k).2 ≤ l.length := drw_le (f := sc1 l) (m := l.length) sc1_le (dkx_le h) _
theorem srg_len (l : List Int) (k : Nat) : 1 ≤ (srg l k).1.length ∧ (srg l k).1.length ≤ 24 := by
  have h1 := dnx_ge (l := l) (k := k) (n := 24) (by omega)
  have h2 := dnx_lt (l := l) (k := k) (n := 24) (by omega)
  rw [srg, drw_len]
  omega
def ssr (l : List Int) (k : Nat) : List (List Canon) × Nat := drw (srg l) (dkx l k) ((dnx l k 3).toNat + 1)
theorem ssr_le {l : List Int} (k : Nat) (h : k ≤ l.length) : (ssr l k).2 ≤ l.length := drw_le (f := srg l) (m := l.length) srg_le (dkx_le h) _
def sst (l : List Int) (k : Nat) : List View × Nat := drw (sv1 l) (dkx l (ssr l k).2) (dnx l (ssr l k).2 4).toNat
def ssd (l : List Int) (k : Nat) : State × Nat := (⟨(ssr l k).1, (sst l k).1⟩, (sst l k).2)
theorem ssd_le {l : List Int} (k : Nat) (h : k ≤ l.length) : (ssd l k).2 ≤ l.length := drw_le (f := sv1 l) (m := l.length) sv1_le (dkx_le (ssr_le k h)) _
structure Fine (s : State) : Prop where
  shp : Shp s
  one : 1 ≤ s.regions.length
  len : ∀ x ∈ s.regions, x.length ≤ 24
  reg : ∀ x ∈ s.threads, x.regs.length = 8
theorem ssd_fine (l : List Int) (k : Nat) : Fine (ssd l k).1 := by
  have h1 := dnx_ge (l := l) (k := k) (n := 3) (by omega)
  have h2 := dnx_lt (l := l) (k := k) (n := 3) (by omega)
  have h3 := dnx_ge (l := l) (k := (ssr l k).2) (n := 4) (by omega)
  have h4 := dnx_lt (l := l) (k := (ssr l k).2) (n := 4) (by omega)
  have e1 : (ssr l k).1.length = (dnx l k 3).toNat + 1 := drw_len _ _ _
  have e2 : (sst l k).1.length = (dnx l (ssr l k).2 4).toNat := drw_len _ _ _
  have e3 : ∀ x ∈ (ssr l k).1, 1 ≤ x.length ∧ x.length ≤ 24 := drw_all (p := fun x : List Canon => 1 ≤ x.length ∧ x.length ≤ 24) (srg_len l) _ _
  have e4 : ∀ x ∈ (sst l k).1, x.regs.length = 8 := drw_all (p := fun x : View => x.regs.length = 8) (sv1_regs l) _ _
  refine ⟨⟨?_, ?_, ?_⟩, ?_, fun x hx => (e3 x hx).2, e4⟩
  · show (ssr l k).1.length ≤ 4; omega
  · show (sst l k).1.length ≤ 4; omega
  · intro j hj
    have := e3 _ (mem_at hj)
    show 1 ≤ ((ssr l k).1[j]!).length ∧ _
    exact ⟨this.1, by have := this.2; show ((ssr l k).1[j]!).length ≤ 32; omega⟩
  · show 1 ≤ (ssr l k).1.length; omega
attribute [local irreducible] srg sc1 sv1
set_option maxHeartbeats 8000000 in
theorem sstate_fn (l : List Int) (k : Nat) (hk : k ≤ l.length) : FncM Try.prog 16 91 (deckV l k) [] (fun x obs c => x = staV (ssd l k).1 ∧ obs = [] ∧ c = deckV l (ssd l k).2) := by
  refine FncM.low ?_
  have h1 := dnx_ge (l := l) (k := k) (n := 3) (by omega)
  have h2 := dnx_lt (l := l) (k := k) (n := 3) (by omega)
  have p1 := dkx_le hk
  have hd1 : ssr l k = drw (srg l) (dkx l k) ((dnx l k 3).toNat + 1) := rfl
  have hd2 : ssd l k = (⟨(ssr l k).1, (sst l k).1⟩, (sst l k).2) := rfl
  have hd3 : sst l k = drw (sv1 l) (dkx l (ssr l k).2) (dnx l (ssr l k).2 4).toNat := rfl
  have hq0 := ssr_le k hk
  rw [hd2]
  refine zgM m_sstate_ok fun W S b0 hb0 => ?_
  refine zcm (next_fn l k 3 hk (by omega)) ?_
  generalize dnx l k 3 = n3 at h1 h2 hd1
  generalize dkx l k = K at p1 hd1
  refine ev_adoptB 2 0 40 1 rfl rfl (by decide) rfl ?_
  refine ev_loopK [0, 2, 3] (fun p : {p : Nat // p ≤ n3.toNat + 1} => [(4, .int .i64 (n3 - p.1))]) (fun p => [⟨.box true 91, true, 0, deckV l (drw (srg l) K p.1).2⟩, ⟨.box false 30, true, 0, .agg [.nilS, .nilS]⟩, ⟨.box false 30, true, 0, .agg [.own 3 p.1, .nilS]⟩, ⟨.row 40, true, p.1, .arr 1 ((drw (srg l) K p.1).1.map (slV' true 4 canonV))⟩]) (fun p => n3.toNat + 1 - p.1) (⟨0, by simp⟩) 4 (by simp only [go_sem]; rfl) ?_ (by first | rfl | (simp only [go_sem]; done) | (simp only [go_sem]; simp [drw]; done)) (by simp) (by first | rfl | (simp only [go_sem]; done)) (by first | rfl | (simp only [go_sem]; done)) (by first | rfl | (simp only [go_sem]; done) | (simp only [drw]; (try simp only [go_sem]); first | done | rfl)) ?_
  · (simp only [go_sem]; (try simp [drw]); done)
  intro J hJ
  rintro ⟨i, hi⟩
  have hp := drw_le (f := srg l) (m := l.length) srg_le p1 i
  have hlen := drw_len (srg l) K i
  have hJ0 := hJ
  by_cases hlt : i < n3.toNat + 1
  · skip
    generalize hq : drw (srg l) K i = q at hp hlen
    have hd' : drw (srg l) K (i + 1) = (q.1 ++ [(srg l q.2).1], (srg l q.2).2) := by rw [drw, hq]
    have hds : srg l q.2 = drw (sc1 l) (dkx l q.2) ((dnx l q.2 24).toNat + 1) := by unfold srg; rfl
    have j1 := dnx_ge (l := l) (k := q.2) (n := 24) (by omega)
    have j2 := dnx_lt (l := l) (k := q.2) (n := 24) (by omega)
    have p2 := dkx_le hp
    refine zst ?_
    refine zcm (next_fn l q.2 24 hp (by omega)) ?_
    generalize dnx l q.2 24 = n24 at j1 j2 hds
    generalize dkx l q.2 = K2 at p2 hds
    refine ev_adopt (i := 5) (e := 84) (s := 4) rfl (by decide) ?_
    refine ev_loopK [0, 2, 3, 4] (fun p : {p : Nat // p ≤ n24.toNat + 1} => [(5, .own 4 p.1), (6, .int .i64 (n24 - p.1))]) (fun p => [⟨.box true 91, true, 0, deckV l (drw (sc1 l) K2 p.1).2⟩, ⟨.box false 30, true, 0, .agg [.nilS, .nilS]⟩, ⟨.box false 30, true, 0, .agg [.own 3 i, .nilS]⟩, ⟨.row 40, true, i, .arr 1 (q.1.map (slV' true 4 canonV))⟩, ⟨.row 84, true, p.1, .arr 4 ((drw (sc1 l) K2 p.1).1.map canonV)⟩]) (fun p => n24.toNat + 1 - p.1) (⟨0, by simp⟩) 5 (by simp only [go_sem]; rfl) ?_ (by first | rfl | (simp only [go_sem]; done) | (simp only [go_sem]; simp [drw]; done)) (by simp) (by first | rfl | (simp only [go_sem]; done)) (by first | rfl | (simp only [go_sem]; done)) (by first | rfl | (simp only [go_sem]; done) | (simp only [drw]; (try simp only [go_sem]); first | done | rfl)) ?_
    · (simp only [go_sem]; (try simp [drw]); done)
    intro J hJ
    rintro ⟨j, hj⟩
    have hp3 := drw_le (f := sc1 l) (m := l.length) sc1_le p2 j
    have hlen3 := drw_len (sc1 l) K2 j
    by_cases hlj : j < n24.toNat + 1
    · skip
      generalize hqj : drw (sc1 l) K2 j = q2 at hp3 hlen3
      have hd3 : drw (sc1 l) K2 (j + 1) = (q2.1 ++ [(sc1 l q2.2).1], (sc1 l q2.2).2) := by rw [drw, hqj]
      refine zst ?_
      refine zcm (scell_fn l q2.2 hp3) ?_
      exact zn5 (hJ _ (⟨j + 1, hlj⟩) (by first | omega | (dsimp only; omega) | (simp; omega))) hd3
    · obtain rfl : j = n24.toNat + 1 := by omega
      have hJ := hJ0
      dsimp only
      rw [← hds]
      refine zsu ?_
      refine ev_freeze 5 rfl rfl ?_
      refine zst ?_
      refine ev_next 4 (hJ _ (⟨i + 1, hlt⟩) (by first | omega | (dsimp only; omega) | (simp; omega))) rfl (by simp) ?_ (by first | rfl | (simp only [go_sem]; done)) (by first | rfl | (simp only [go_sem]; done) | (simp only [hd']; (try simp only [go_sem]); first | done | rfl)) ?_
      · (first | rfl | (simp only [go_sem]; done) | (simp only [go_sem]; simp only [hd']; done) | (simp only [hd']; done) | (simp only [go_sem]; simp [hd']; done) | (simp [hd']; done))
      · (simp only [go_sem]; (repeat' (refine And.intro ?_ ?_)) <;> first | exact trivial | with_reducible rfl | (simp only [hd']; done) | (simp only [hd']; with_reducible rfl) | (simp [hd']; done) | (simp [hd']; omega) | (simp only [hd']; rfl) | skip)
  · obtain rfl : i = n3.toNat + 1 := by omega
    dsimp only
    rw [← hd1] at hlen ⊢
    clear hp
    generalize ssr l k = R at hlen hd3 hq0
    have j1 := dnx_ge (l := l) (k := R.2) (n := 4) (by omega)
    have j2 := dnx_lt (l := l) (k := R.2) (n := 4) (by omega)
    have p2 := dkx_le hq0
    refine zst ?_
    refine zcm (next_fn l R.2 4 hq0 (by omega)) ?_
    generalize dnx l R.2 4 = n4 at j1 j2 hd3
    generalize dkx l R.2 = K2 at p2 hd3
    refine ev_adoptB 2 1 43 8 rfl rfl (by decide) rfl ?_
    refine ev_loopK [0, 2, 3] (fun p : {p : Nat // p ≤ n4.toNat} => [(7, .int .i64 (n4 - p.1))]) (fun p => [⟨.box true 91, true, 0, deckV l (drw (sv1 l) K2 p.1).2⟩, ⟨.box false 30, true, 0, .agg [.nilS, .nilS]⟩, ⟨.box false 30, true, 0, .agg [.own 3 (n3.toNat + 1), .own 4 p.1]⟩, ⟨.row 40, true, n3.toNat + 1, .arr 1 (R.1.map (slV' true 4 canonV))⟩, ⟨.row 43, true, p.1, .arr 8 ((drw (sv1 l) K2 p.1).1.map (viewV true))⟩]) (fun p => n4.toNat - p.1) (⟨0, by simp⟩) 5 (by simp only [go_sem]; rfl) ?_ (by first | rfl | (simp only [go_sem]; done) | (simp only [go_sem]; simp [drw]; done)) (by simp) (by first | rfl | (simp only [go_sem]; done)) (by first | rfl | (simp only [go_sem]; done)) (by first | rfl | (simp only [go_sem]; done) | (simp only [drw]; (try simp only [go_sem]); first | done | rfl)) ?_
    · (simp only [go_sem]; (try simp [drw]); done)
    intro J hJ
    rintro ⟨j, hj⟩
    have hp3 := drw_le (f := sv1 l) (m := l.length) sv1_le p2 j
    have hlen3 := drw_len (sv1 l) K2 j
    by_cases hlj : j < n4.toNat
    · skip
      generalize hqj : drw (sv1 l) K2 j = q2 at hp3 hlen3
      have hdj : drw (sv1 l) K2 (j + 1) = (q2.1 ++ [(sv1 l q2.2).1], (sv1 l q2.2).2) := by rw [drw, hqj]
      have hs : q2.1.map (viewV true) ++ [viewV true (sv1 l q2.2).1] = (q2.1 ++ [(sv1 l q2.2).1]).map (viewV true) := by simp
      refine zst ?_
      refine zcm (sview_fn l q2.2 hp3) ?_
      exact zn5 (hJ _ (⟨j + 1, hlj⟩) (by first | omega | (dsimp only; omega) | (simp; omega))) (And.intro hdj (hs))
    · obtain rfl : j = n4.toNat := by omega
      dsimp only
      rw [← hd3]
      refine zst ?_
      exact zrm hb0 m_sstate_ok
end Go.Proofs.Ytcphobeommkgeaa
