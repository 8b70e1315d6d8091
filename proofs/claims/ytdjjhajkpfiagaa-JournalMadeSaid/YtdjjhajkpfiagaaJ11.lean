/- Journals: notes, drawn. -/
import Derived.Test.YtdjjhajkpfiagaaJ9
import Derived.Test.YtdjjhajkpfiagaaC5
import Derived.Test.YtdjjhajkpfiagaaGF
namespace Go.Proofs.Ytdjjhajkpfiagaa
open Go Go.RowKit Rdn Rdn.Dp
set_option linter.unusedVariables false
set_option linter.unusedSimpArgs false
theorem m_notes_ok : compF Try.prog 14 = some (44, Qr ([Qp 4 (.mov (.c (.nilS)))])
 (Qr ([Qp 5 (.mov (.c (.nilS)))])
 (.seq (Qr ([Qm 9 0, Qm 10 1, Qk 11 .add 10 1, Qq 12 26 [(.t 9), (.t 11)], Qm 6 12])
 (.block 0 (.loop (.seq (Qr ([Qm 13 6, Qk 14 .gtr 13 0])
 (.cond (.t 14) (.skip) (.exit 0)))
 (.seq (.block 1 (Qr ([Qm 17 0, Qq 18 26 [(.t 17), (Qi 6)], Qp 19 (.bin 0 .add (Qi 1) (.t 18)), Qm 20 0, Qq 21 26 [(.t 20), (Qi 5000)], Qm 22 0, Qq 23 26 [(.t 22), (Qi 4)], Qw 24 (.build none [.int .i64 0, .int .i64 0, .int .i64 0, .nilS] [(0, (.t 19)), (1, (.t 21)), (2, (.t 23))]), Qw 7 (.alloc 34 (.agg [.int .i64 0, .int .i64 0, .int .i64 0, .nilS])), Qs 4 7 24])
 (.seq (Qr ([Qm 25 0, Qq 26 26 [(.t 25), (Qi 12)], Qm 8 26])
 (.block 2 (.loop (.seq (Qr ([Qm 27 8, Qk 28 .gtr 27 0])
 (.cond (.t 28) (.skip) (.exit 2)))
 (.seq (.block 3 (.dreg [Qf 31 3 3 7, Ql 32 1 31, Qm 33 0, Qq 34 26 [(.t 33), (Qi 256)], Qp 35 (.conv .u8 (.t 34)), Qw 36 (.buildS 5 1 (.int .u8 0) 1 [(0, (.t 35))]), Qw 37 (.app 5 1 1 (.t 32) (.t 36)), Qf 38 3 3 7, Qs 1 38 37] [[], [0], [], [2], [2, 3], [2, 3, 4], [0, 1, 2, 3, 4, 5], [0, 1, 2, 3, 4, 5, 6], [0, 1, 2, 3, 4, 5, 6, 7]]))
 (.reg [Qm 29 8, Qk 30 .sub 29 1, Qm 8 30]))))))
 (.reg [Qm 39 5, QL 40 4 7, Qw 41 (.buildS 34 4 (.agg [.int .i64 0, .int .i64 0, .int .i64 0, .nilS]) 1 [(0, (.t 40))]), Qw 42 (.app 34 4 48 (.t 39) (.t 41)), Qm 5 42]))))
 (.reg [Qm 15 6, Qk 16 .sub 15 1, Qm 6 16]))))))
 (Qr ([Qm 43 5, Qm 4 43])
 (.ret)))), [.mov (.t 4)]) := by kernel_rfl
/-- A byte, drawn. -/
def dby (l : List Int) (k : Nat) : Int × Nat := (dnx l k 256, dkx l k)
theorem dby_le {l : List Int} (k : Nat) (h : k ≤ l.length) : (dby l k).2 ≤ l.length := dkx_le h
/-- A note, drawn. -/
def dn1 (l : List Int) (k : Nat) : Note × Nat :=
  (⟨1 + dnx l k 6, dnx l (dkx l k) 5000, dnx l (dkx l (dkx l k)) 4, (drw (dby l) (dkx l (dkx l (dkx l (dkx l k)))) (dnx l (dkx l (dkx l (dkx l k))) 12).toNat).1⟩, (drw (dby l) (dkx l (dkx l (dkx l (dkx l k)))) (dnx l (dkx l (dkx l (dkx l k))) 12).toNat).2)
theorem dn1_le {l : List Int} (k : Nat) (h : k ≤ l.length) : (dn1 l k).2 ≤ l.length := drw_le (f := dby l) dby_le (dkx_le (dkx_le (dkx_le (dkx_le h)))) _
def dns (l : List Int) (k : Nat) (n : Int) : List Note × Nat := drw (dn1 l) (dkx l k) (dnx l k (n + 1)).toNat
/-- A note whose numbers are small. -/
def okNote (n : Note) : Prop := 1 ≤ n.kind ∧ n.kind ≤ 6 ∧ 0 ≤ n.state ∧ n.state ≤ 255 ∧ 0 ≤ n.number ∧ n.number ≤ 5000 ∧ n.bytes.length ≤ 11 ∧ ∀ x ∈ n.bytes, inK .u8 x
theorem dn1_ok (l : List Int) (k : Nat) : okNote (dn1 l k).1 := by
  have a1 := dnx_ge (l := l) (k := k) (n := 6) (by omega)
  have a2 := dnx_lt (l := l) (k := k) (n := 6) (by omega)
  have b1 := dnx_ge (l := l) (k := dkx l k) (n := 5000) (by omega)
  have b2 := dnx_lt (l := l) (k := dkx l k) (n := 5000) (by omega)
  have c1 := dnx_ge (l := l) (k := dkx l (dkx l k)) (n := 4) (by omega)
  have c2 := dnx_lt (l := l) (k := dkx l (dkx l k)) (n := 4) (by omega)
  have d2 := dnx_lt (l := l) (k := dkx l (dkx l (dkx l k))) (n := 12) (by omega)
  unfold dn1 okNote
  refine ⟨by dsimp only; omega, by dsimp only; omega, by dsimp only; omega, by dsimp only; omega, by dsimp only; omega, by dsimp only; omega, ?_, ?_⟩
  · simp only [drw_len]; omega
  · refine drw_all (p := fun x => inK .u8 x) (fun k => ?_) _ _
    have e1 := dnx_ge (l := l) (k := k) (n := 256) (by omega)
    have e2 := dnx_lt (l := l) (k := k) (n := 256) (by omega)
    have e : inK .u8 (dnx l k 256) ↔ 0 ≤ dnx l k 256 ∧ dnx l k 256 ≤ 255 := by unfold inK; simp [IntKind.min, IntKind.max, IntKind.signed, IntKind.bits]
    exact e.2 ⟨e1, by omega⟩
theorem okNote.chk {n : Note} (h : okNote n) : chkN n = 0 := by
  unfold okNote at h
  unfold chkN
  rw [if_neg (by omega), if_neg (by omega)]
theorem dns_le {l : List Int} {k : Nat} (hk : k ≤ l.length) (n : Int) : (dns l k n).2 ≤ l.length := drw_le (f := dn1 l) dn1_le (dkx_le hk) _
theorem dns_ok (l : List Int) (k : Nat) (n : Int) : ∀ x ∈ (dns l k n).1, okNote x := drw_all (dn1_ok l) _ _
theorem dns_len {l : List Int} {k : Nat} {n : Int} (hn : 0 ≤ n) : (dns l k n).1.length ≤ n.toNat := by
  have h2 := dnx_lt (l := l) (k := k) (n := n + 1) (by omega)
  rw [dns, drw_len]
  omega
theorem snoc_note4 (t : Bool) (l : List Note) (a b c : Int) (d : List Int) (r : List V) : l.map (noteV t) ++ (V.agg [.int .i64 a, .int .i64 b, .int .i64 c, .sl t 1 (u8s d)] :: r) = (l ++ [(⟨a, b, c, d⟩ : Note)]).map (noteV t) ++ r := by simp
attribute [local go_sem] snoc_note4
set_option maxHeartbeats 8000000 in
theorem notes_fn (l : List Int) (k : Nat) (n : Int) (hk : k ≤ l.length) (hn : 0 ≤ n) (hn' : n ≤ 1000) : FncM Try.prog 14 77 (deckV l k) [.int .i64 n] (fun x obs c => x = .sl false 4 ((dns l k n).1.map (noteV false)) ∧ obs = [] ∧ c = deckV l (dns l k n).2) := by
  refine FncM.low ?_
  have h1 := dnx_ge (l := l) (k := k) (n := n + 1) (by omega)
  have h2 := dnx_lt (l := l) (k := k) (n := n + 1) (by omega)
  refine zgM m_notes_ok fun W S b0 hb0 => ?_
  refine zcm (next_fn l k (n + 1) hk (by omega)) ?_
  refine ev_adopt (i := 5) (e := 34) (s := 4) rfl (by decide) ?_
  refine ev_loopK [0] (fun p : {p : Nat // p ≤ (dnx l k (n + 1)).toNat} => [(5, .own 1 p.1), (6, .int .i64 (dnx l k (n + 1) - p.1))]) (fun p => [⟨.box true 77, true, 0, deckV l (drw (dn1 l) (dkx l k) p.1).2⟩, ⟨.row 34, true, p.1, .arr 4 ((drw (dn1 l) (dkx l k) p.1).1.map (noteV true))⟩]) (fun p => (dnx l k (n + 1)).toNat - p.1) (⟨0, by simp⟩) 2 (by simp only [go_sem]; rfl) ?_ (by first | rfl | (simp only [go_sem]; done) | (simp only [go_sem]; simp [drw]; done)) (by simp) (by first | rfl | (simp only [go_sem]; done)) (by first | rfl | (simp only [go_sem]; done)) (by first | rfl | (simp only [go_sem]; done) | (simp only [drw]; (try simp only [go_sem]); first | done | rfl)) ?_
  · (simp only [go_sem]; (try simp [drw]); done)
  intro J hJ
  rintro ⟨i, hi⟩
  have hp := drw_le (f := dn1 l) (m := l.length) dn1_le (dkx_le hk) i
  have hlen := drw_len (dn1 l) (dkx l k) i
  by_cases hlt : i < (dnx l k (n + 1)).toNat
  · skip
    generalize hq : drw (dn1 l) (dkx l k) i = q at hp hlen
    have hd : drw (dn1 l) (dkx l k) (i + 1) = (q.1 ++ [(dn1 l q.2).1], (dn1 l q.2).2) := by rw [drw, hq]
    have a1 := dnx_ge (l := l) (k := q.2) (n := 6) (by omega)
    have a2 := dnx_lt (l := l) (k := q.2) (n := 6) (by omega)
    have p1 := dkx_le hp
    have p2 := dkx_le p1
    have p3 := dkx_le p2
    have p4 := dkx_le p3
    have d1 := dnx_ge (l := l) (k := dkx l (dkx l (dkx l q.2))) (n := 12) (by omega)
    have d2 := dnx_lt (l := l) (k := dkx l (dkx l (dkx l q.2))) (n := 12) (by omega)
    have hdn : dn1 l q.2 = (⟨1 + dnx l q.2 6, dnx l (dkx l q.2) 5000, dnx l (dkx l (dkx l q.2)) 4, (drw (dby l) (dkx l (dkx l (dkx l (dkx l q.2)))) (dnx l (dkx l (dkx l (dkx l q.2))) 12).toNat).1⟩, (drw (dby l) (dkx l (dkx l (dkx l (dkx l q.2)))) (dnx l (dkx l (dkx l (dkx l q.2))) 12).toNat).2) := rfl
    have hJ1 := hJ
    refine zst ?_
    refine zcm (next_fn l q.2 6 hp (by omega)) ?_
    refine zcm (next_fn l _ 5000 p1 (by omega)) ?_
    refine zcm (next_fn l _ 4 p2 (by omega)) ?_
    refine zcm (next_fn l _ 12 p3 (by omega)) ?_
    generalize dnx l (dkx l (dkx l (dkx l q.2))) 12 = c at d1 d2 hdn
    generalize dkx l (dkx l (dkx l (dkx l q.2))) = K at p4 hdn
    generalize 1 + dnx l q.2 6 = nk at hdn
    generalize dnx l (dkx l q.2) 5000 = nn at hdn
    generalize dnx l (dkx l (dkx l q.2)) 4 = ns at hdn
    refine ev_adoptB 2 3 5 1 rfl rfl (by decide) rfl ?_
    refine ev_loopK [0, 5, 6, 7] (fun p : {p : Nat // p ≤ c.toNat} => [(8, .int .i64 (c - p.1))]) (fun p => [⟨.box true 77, true, 0, deckV l (drw (dby l) K p.1).2⟩, ⟨.row 34, true, i, .arr 4 (q.1.map (noteV true))⟩, ⟨.box false 34, true, 0, .agg [.int .i64 nk, .int .i64 nn, .int .i64 ns, .own 3 p.1]⟩, ⟨.row 5, true, p.1, .arr 1 (u8s (drw (dby l) K p.1).1)⟩]) (fun p => c.toNat - p.1) (⟨0, by simp⟩) 4 (by simp only [go_sem]; rfl) ?_ (by first | rfl | (simp only [go_sem]; done) | (simp only [go_sem]; simp [drw]; done)) (by simp) (by first | rfl | (simp only [go_sem]; done)) (by first | rfl | (simp only [go_sem]; done)) (by first | rfl | (simp only [go_sem]; done) | (simp only [drw]; (try simp only [go_sem]); first | done | rfl)) ?_
    · (simp only [go_sem]; (try simp [drw]); done)
    intro J hJ
    rintro ⟨j, hj⟩
    have hp' := drw_le (f := dby l) (m := l.length) dby_le p4 j
    have hlen' := drw_len (dby l) K j
    by_cases hlt' : j < c.toNat
    · skip
      generalize hq' : drw (dby l) K j = q' at hp' hlen'
      have hd' : drw (dby l) K (j + 1) = (q'.1 ++ [dnx l q'.2 256], dkx l q'.2) := by rw [drw, hq']; rfl
      have e1 := dnx_ge (l := l) (k := q'.2) (n := 256) (by omega)
      have e2 := dnx_lt (l := l) (k := q'.2) (n := 256) (by omega)
      refine zst ?_
      refine zcm (next_fn l q'.2 256 hp' (by omega)) ?_
      refine ev_next 4 (hJ _ (⟨j + 1, hlt'⟩) (by first | omega | (dsimp only; omega) | (simp; omega))) rfl (by simp) ?_ (by first | rfl | (simp only [go_sem]; done)) (by first | rfl | (simp only [go_sem]; done) | (simp only [hd']; (try simp only [go_sem]); first | done | rfl)) ?_
      · (first | rfl | (simp only [go_sem]; done) | (simp only [go_sem]; simp only [hd']; done) | (simp only [hd']; done) | (simp only [go_sem]; simp [hd']; done) | (simp [hd']; done))
      · (simp only [go_sem]; (repeat' (refine And.intro ?_ ?_)) <;> first | exact trivial | with_reducible rfl | (simp only [hd']; done) | (simp only [hd']; with_reducible rfl) | (simp [hd']; done) | (simp [hd']; omega) | (simp only [hd']; rfl) | skip)
    · obtain rfl : j = c.toNat := by omega
      have hJ := hJ1
      refine zst ?_
      exact zn2 (hJ _ (⟨i + 1, hlt⟩) (by first | omega | (dsimp only; omega) | (simp; omega))) (And.intro hd (hdn))
  · obtain rfl : i = (dnx l k (n + 1)).toNat := by omega
    refine zst ?_
    apply st_returnM hb0 m_notes_ok []
    · (simp only [go_sem]; rfl)
    · (first | exact trivial | (simp; done))
    · (first | (simp [outOk]; done) | exact outOk1 rfl)
    · (simp only [go_sem]; (first | done | trivial | simp [V.resOk, V.ressOk, rowV, V.pures, V.pure, pures_appE, pures_lo, pures_sls]))
    · (first | (simp only [V.res, V.ress, rowV, List.idxOf?_nil, List.idxOf?_cons, List.getElem?_cons_zero, List.getElem?_cons_succ]; first | rfl | (simp only [go_sem]; rfl)) | rfl)
    · (first | (simp only [go_sem]; rfl) | rfl)
    · rfl
    · (simp only [go_sem]; (first | done | rfl))
    ((try dsimp only); (repeat' (refine And.intro ?_ ?_)) <;> first | with_reducible rfl | (simp only [go_sem]; done) | (simp only [go_sem]; rfl) | (simp only [go_sem, dns]; done) | (simp only [dns]; (try simp only [go_sem]); first | done | rfl) | (simp only [go_sem]; simp [dns]; done) | (simp [dns]; done) | rfl)
end Go.Proofs.Ytdjjhajkpfiagaa
