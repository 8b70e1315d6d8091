/- The outside: the law OutsideKeeps. -/
import Derived.Test.YtkfpcgkmemfdaaaUE
import Derived.Test.YtkfpcgkmemfdaaaZt
import Derived.Test.YtkfpcgkmemfdaaaUB
namespace Go.Proofs.Ytkfpcgkmemfdaaa
open Go Go.RowKit Rdn Rdn.Dp
set_option linter.unusedVariables false
set_option linter.unusedSimpArgs false
theorem m_okeep_ok : compF Try.prog 4 = some (141, Qr ([Qc 2 (.bool false)])
 (Qr ([Qm 12 0, Qq 13 11 [(.t 12)], Qm 3 13])
 (Qr ([Qm 14 3, Qq 15 12 [(.t 14)], Qw 4 (.alloc 31 (.agg [.nilS, .nilS, .nilS, .agg [.nilS, .nilS], .nilS])), Qs 6 4 15])
 (.seq (Qr ([Qp 16 (.mov (Qi 0))])
 (.block 0 (.loop (Qr ([Qk 17 .lss 16 6])
 (.seq (.cond (.t 17) (.skip) (.exit 0))
 (.seq (.block 1 (Qr ([Qm 18 3, Qq 19 13 [(.t 18)], Qw 5 (.alloc 43 (.agg [.int .i64 0, .int .i64 0, .int .i64 0, .int .i64 0, .int .i64 0, .int .i64 0, .nilS, .nilS])), Qs 8 5 19])
 (Qr ([QL 21 6 4, QL 22 8 5, Qq 23 14 [(.t 21), (.t 22)], Qm 20 23, Qe 24 20 0, Qe 25 20 1, Qe 26 20 2, Qw 6 (.alloc 31 (.agg [.nilS, .nilS, .nilS, .agg [.nilS, .nilS], .nilS])), Qw 7 (.alloc 49 (.agg [.agg [.int .u8 0, .int .u16 0, .int .i64 0, .int .i64 0], .nilS, .int .i64 0, .bool false])), Qs 6 6 24, Qs 7 7 25, Qm 8 26])
 (.seq (Qr ([Qm 27 8, Qk 28 .neq 27 0])
 (.cond (.t 28) (.exit 1) (.skip)))
 (.seq (Qr ([QL 29 6 6, Qq 30 15 [(.t 29)], Qp 31 (.un .not (.t 30)), Qm 32 31, Q0 33 32 (.load true 7 (.t 7)), ⟨(some 34), (some (32, false)), (.call 16 [(.t 33)])⟩, Q0 35 32 (.un .not (.t 34)), Qt 36 32 35, Qm 37 36, Q0 38 37 (.fieldA 5 2 (.t 7)), Q0 39 37 (.load false 1 (.t 38)), Q0 40 37 (.bin 0 .neq (.t 39) (Qi (-1))), Qt 41 37 40, Qm 42 41, Q0 43 42 (.fieldA 6 3 (.t 7)), Q0 44 42 (.load false 1 (.t 43)), Qt 45 42 44, Qm 46 45, Q0 47 46 (.fieldA 5 4 (.t 6)), Q0 48 46 (.load false 1 (.t 47)), Q0 49 46 (.len (.t 48)), Q0 50 46 (.fieldA 5 4 (.t 4)), Q0 51 46 (.load false 1 (.t 50)), Q0 52 46 (.len (.t 51)), Q0 53 46 (.bin 0 .lss (.t 49) (.t 52)), Qt 54 46 53, Qm 55 54, Q0 56 55 (.fieldA 0 0 (.t 6)), Q0 57 55 (.load false 1 (.t 56)), Q0 58 55 (.len (.t 57)), Q0 59 55 (.fieldA 0 0 (.t 4)), Q0 60 55 (.load false 1 (.t 59)), Q0 61 55 (.len (.t 60)), Q0 62 55 (.bin 0 .gtr (.t 58) (.t 61)), Qt 63 55 62, Qm 64 63, Q0 65 64 (.fieldA 1 1 (.t 6)), Q0 66 64 (.load false 1 (.t 65)), Q0 67 64 (.len (.t 66)), Q0 68 64 (.fieldA 1 1 (.t 4)), Q0 69 64 (.load false 1 (.t 68)), Q0 70 64 (.len (.t 69)), Q0 71 64 (.bin 0 .gtr (.t 67) (.t 70)), Qt 72 64 71])
 (.cond (.t 72) (Qr ([Qc 2 (.bool false)])
 (.ret)) (.skip)))
 (.seq (Qr ([Qf 73 5 4 4, Ql 74 1 73, Qn 75 74, Qp 76 (.mov (Qi 0))])
 (.block 2 (.loop (Qr ([Qb 77 .lss 76 75])
 (.seq (.cond (.t 77) (.skip) (.exit 2))
 (.seq (.block 3 (Qr ([Qm 78 76, Qx 79 3 74 76, QL 80 3 79, Qw 10 (.alloc 55 (.agg [.int .i64 0, .int .i64 0, .nilS])), Qm 9 78, Qs 3 10 80])
 (Qr ([Qf 81 5 4 6, Ql 82 1 81, Qm 83 9, Qx 84 3 82 83, QL 85 3 84, Qw 11 (.alloc 55 (.agg [.int .i64 0, .int .i64 0, .nilS])), Qs 3 11 85])
 (Qr ([Qf 86 0 0 10, Ql 87 1 86, Qf 88 0 0 11, Ql 89 1 88, Qb 90 .neq 87 89, Qm 91 90, Q0 92 91 (.fieldA 1 1 (.t 10)), Q0 93 91 (.load false 1 (.t 92)), Q0 94 91 (.fieldA 1 1 (.t 11)), Q0 95 91 (.load false 1 (.t 94)), Q0 96 91 (.bin 0 .neq (.t 93) (.t 95)), Qt 97 91 96, Qm 98 97, Q0 99 98 (.fieldA 2 2 (.t 10)), Q0 100 98 (.load false 1 (.t 99)), Q0 101 98 (.len (.t 100)), Q0 102 98 (.fieldA 2 2 (.t 11)), Q0 103 98 (.load false 1 (.t 102)), Q0 104 98 (.len (.t 103)), Q0 105 98 (.bin 0 .neq (.t 101) (.t 104)), Qt 106 98 105])
 (.cond (.t 106) (Qr ([Qc 2 (.bool false)])
 (.ret)) (.skip))))))
 (.reg [Qk 107 .add 76 1, Qm 76 107])))))))
 (.seq (Qr ([Qf 108 0 0 7, QL 109 4 108, Qw 110 (.build none [.int .u8 0, .int .u16 0, .int .i64 0, .int .i64 0] [(1, (.c (.int .u16 65535)))]), Qp 111 (.eqs false [(some .u8), (some .u16), (some .i64), (some .i64)] (.t 109) (.t 110)), Qm 112 111, Q1 113 112 (.fieldA 5 5 (.t 5)), Q1 114 112 (.load false 1 (.t 113)), Q1 115 112 (.bin 0 .neq (.t 114) (Qi 6)), Qu 116 112 115, Qm 117 116, Q1 118 117 (.fieldA 5 5 (.t 5)), Q1 119 117 (.load false 1 (.t 118)), Q1 120 117 (.bin 0 .neq (.t 119) (Qi 7)), Qu 121 117 120, Qm 122 121, Q1 123 122 (.load true 6 (.t 6)), Q1 124 122 (.load true 6 (.t 4)), ⟨(some 125), (some (122, true)), (.call 10 [(.t 123), (.t 124)])⟩, Q1 126 122 (.un .not (.t 125)), Qu 127 122 126])
 (.cond (.t 127) (Qr ([Qc 2 (.bool false)])
 (.ret)) (.skip)))
 (.seq (Qr ([Qf 128 4 1 7, Ql 129 1 128, Qn 130 129, Qk 131 .gtr 130 0, Qm 132 131, Q1 133 132 (.fieldA 5 5 (.t 5)), Q1 134 132 (.load false 1 (.t 133)), ⟨(some 135), (some (132, true)), (.call 17 [(.t 134)])⟩, Q1 136 132 (.bin 0 .neq (.t 135) (Qi 2)), Qu 137 132 136])
 (.cond (.t 137) (Qr ([Qc 2 (.bool false)])
 (.ret)) (.skip)))
 (.reg [QL 138 6 6, Qs 6 4 138])))))))))
 (.reg [Qk 139 .add 16 1, Qm 16 139])))))))
 (Qr ([Qq 140 7 [], Qm 2 140])
 (.ret))))), [.mov (.t 2)]) := by kernel_rfl
attribute [local irreducible] sDo rq usd usn
theorem ust_0 {l : List Int} {p : Rdn.Outside × Nat} (h : (sDo p.1 (rq l p.2).1).2.2 = 0) : ust l p = ((sDo p.1 (rq l p.2).1).1, (rq l p.2).2) := by unfold ust; rw [if_pos h]
theorem ust_1 {l : List Int} {p : Rdn.Outside × Nat} (h : (sDo p.1 (rq l p.2).1).2.2 = 1) : ust l p = (p.1, (rq l p.2).2) := by unfold ust; rw [if_neg (by rw [h]; decide)]
structure Kept (o : Rdn.Outside) (q : Request) (x : Rdn.Outside) (r : Rdn.Result) : Prop where
  v : FitO x
  rf : FitR r
  n : o.outputs.length ≤ x.outputs.length
  c : x.clock.length ≤ o.clock.length
  d : x.random.length ≤ o.random.length
  p : ∀ j, j < o.outputs.length → x.outputs[j]! = o.outputs[j]!
  f : r.value = ⟨0, 65535, 0, 0⟩ → q.call ≠ 6 → q.call ≠ 7 → x = o
  b : 0 < r.data.length → bufS q.call = 2
  g : 0 ≤ q.call ∧ q.call ≤ 15
theorem sDo_kept {o : Rdn.Outside} {q : Request} (h : (sDo o q).2.2 = 0) : Kept o q (sDo o q).1 (sDo o q).2.1 := by
  obtain ⟨hF, hk⟩ := sDo_fit h
  obtain ⟨F, A, C, H⟩ := okDo_of hk
  have K := doS_keeps F A C H
  have hg := (asks_fit A).1.call
  rw [sDo_T hk] at hF ⊢
  exact ⟨hF, K.r, K.n, K.c, K.d, K.p, K.f, K.b, hg⟩
theorem canon_ext {a b : Canon} (h1 : a.tag = b.tag) (h2 : a.val = b.val) (h3 : a.region = b.region) (h4 : a.offset = b.offset) : a = b := by
  cases a; cases b; simp_all
theorem canon_f (a : Canon) : (a.tag == 0 && (a.val == 65535 && (a.region == 0 && a.offset == 0))) = decide (a = ⟨0, 65535, 0, 0⟩) := by
  by_cases h : a = ⟨0, 65535, 0, 0⟩
  · rw [h]; rfl
  · rw [decF h]
    cases a with | mk t v r o =>
    by_cases h1 : t = 0
    · by_cases h2 : v = 65535
      · by_cases h3 : r = 0
        · by_cases h4 : o = 0
          · subst h1 h2 h3 h4; exact absurd rfl h
          · simp [h4]
        · simp [h3]
      · simp [h2]
    · simp [h1]
set_option maxHeartbeats 16000000 in
theorem okeep_fn (l : List Int) : Fnc Try.prog 4 [.sl false 1 (i64s l)] (fun x obs => x = .bool true) := by
  have fa := awake19_fn
  have fu := used_fn l 0 (by omega)
  obtain ⟨hF, hk⟩ := usd_fit (l := l) (k := 0) (by omega)
  generalize usd l 0 = P at fu hF hk
  have hU := fun n => usn_fit (l := l) (p := P) hF hk n
  have h0 : usn l P 0 = P := by unfold usn; rfl
  refine zgo m_okeep_ok fun W S => ?_
  refine zcx (new_fn l) ?_
  refine zcm (fu) ?_
  refine ev_loopK [3, 4] (fun p : {p : Nat // p ≤ 6} => [(16, .int .i64 p.1)]) (fun p => [⟨.box false 72, true, 0, deckV l (usn l P p.1).2⟩, ⟨.box false 31, true, 0, outsV (usn l P p.1).1⟩]) (fun p => 6 - p.1) (⟨0, by simp⟩) 2 (by simp only [go_sem]; rfl) ?_ (by first | rfl | (simp only [go_sem]; done) | (simp only [go_sem]; simp [h0]; done)) (by simp) (by first | rfl | (simp only [go_sem]; done)) (by first | rfl | (simp only [go_sem]; done)) (by first | rfl | (simp only [go_sem]; done) | (simp only [h0]; (try simp only [go_sem]); first | done | rfl)) ?_
  · (simp only [go_sem]; (try simp [h0]); done)
  intro J hJ
  rintro ⟨i, hi⟩
  by_cases hlt : i < 6
  · obtain ⟨hF, hk⟩ := hU i
    have hS : usn l P (i + 1) = ust l (usn l P i) := usn_s
    generalize usn l P i = p at hF hk hS
    obtain ⟨o, k⟩ := p
    dsimp only at hF hk
    have fq := req_fn l k hk
    have fd := wdo_fn o (rq l k).1 (by have := rq_len (l := l) (k := k); omega)
    rcases sDo_e o (rq l k).1 with e | e
    · have K := sDo_kept e
      rw [ust_0 (p := (o, k)) e] at hS
      dsimp only at hS
      generalize rq l k = Q at fq fd K hS e
      obtain ⟨q, k2⟩ := Q
      dsimp only at fq fd K hS e
      rw [e] at fd
      generalize sDo o q = D at fd K hS
      obtain ⟨x, r, e2⟩ := D
      dsimp only at fd K hS
      have fv := roval_fn x
      rw [valO_T K.v] at fv
      have fr := rresv_fn r K.rf
      have hn := K.n
      have hc := K.c
      have hd := K.d
      have hs := K.rf.s
      have hw := K.rf.w
      have hb := K.b
      have hp := K.p
      have hn2 := hF.n
      have hn3 := K.v.n
      have hf := K.f
      obtain ⟨rv, rdt, rsp, rwt⟩ := r
      dsimp only at hs hw hb hf
      subst hs hw
      have hg := K.g
      refine zst ?_
      refine zcm (fq) ?_
      refine zcd (fd) ?_
      refine zcd (fv) ?_
      refine zcd (fr) ?_
      have hJ0 := hJ
      refine ev_loopK [3, 4, 5, 6, 7, 16, 74, 75] (fun p : {p : Nat // p ≤ o.outputs.length} => [(76, .int .i64 p.1)]) (fun p => [⟨.box false 72, true, 0, deckV l k2⟩, ⟨.box false 31, true, 0, outsV o⟩, ⟨.box false 43, true, 0, reqV q⟩, ⟨.box false 31, true, 0, outsV x⟩, ⟨.box false 49, true, 0, resV ⟨rv, rdt, -1, false⟩⟩]) (fun p => o.outputs.length - p.1) (⟨0, by simp⟩) 5 (by simp only [go_sem]; rfl) ?_ (by first | rfl | (simp only [go_sem]; done)) (by simp) (by first | rfl | (simp only [go_sem]; done)) (by first | rfl | (simp only [go_sem]; done)) (by first | rfl | (simp only [go_sem]; done)) ?_
      · (simp only [go_sem]; (try simp []); done)
      intro J hJ
      rintro ⟨j, hj⟩
      by_cases hjl : j < o.outputs.length
      · have hpj := hp j hjl
        refine zsx hpj ?_
        exact zn5 (hJ _ (⟨j + 1, hjl⟩) (by first | omega | (dsimp only; omega) | (simp; omega))) hjl
      · obtain rfl : j = o.outputs.length := by omega
        have hJ := hJ0
        have hl16 := cells_len K.rf.d
        dsimp only at hl16
        have fb := rbuf_fn q.call hg.1 hg.2
        by_cases hv : rv = ⟨0, 65535, 0, 0⟩
        · have he := canon_f rv
          rw [decT hv] at he
          by_cases c6 : q.call = 6
          · skip
            by_cases hz : 0 < rdt.length
            · have hb2 := hb hz
              rw [hb2] at fb
              refine zsx he ?_
              refine zcd (fb) ?_
              exact zn2 (hJ _ (⟨i + 1, hlt⟩) (by first | omega | (dsimp only; omega) | (simp; omega))) hS
            · skip
              refine zsx he ?_
              exact zn2 (hJ _ (⟨i + 1, hlt⟩) (by first | omega | (dsimp only; omega) | (simp; omega))) hS
          by_cases c7 : q.call = 7
          · skip
            by_cases hz : 0 < rdt.length
            · have hb2 := hb hz
              rw [hb2] at fb
              refine zsx he ?_
              refine zcd (fb) ?_
              exact zn2 (hJ _ (⟨i + 1, hlt⟩) (by first | omega | (dsimp only; omega) | (simp; omega))) hS
            · skip
              refine zsx he ?_
              exact zn2 (hJ _ (⟨i + 1, hlt⟩) (by first | omega | (dsimp only; omega) | (simp; omega))) hS
          · obtain rfl := hf hv c6 c7
            have hJ := hJ0
            have fs := rsao_eq x
            by_cases hz : 0 < rdt.length
            · have hb2 := hb hz
              rw [hb2] at fb
              refine zsx he ?_
              refine zcd (fs) ?_
              refine zcd (fb) ?_
              exact zn2 (hJ _ (⟨i + 1, hlt⟩) (by first | omega | (dsimp only; omega) | (simp; omega))) hS
            · skip
              refine zsx he ?_
              refine zcd (fs) ?_
              exact zn2 (hJ _ (⟨i + 1, hlt⟩) (by first | omega | (dsimp only; omega) | (simp; omega))) hS
        · have he := canon_f rv
          rw [decF hv] at he
          by_cases hz : 0 < rdt.length
          · have hb2 := hb hz
            rw [hb2] at fb
            refine zsx he ?_
            refine zcd (fb) ?_
            exact zn2 (hJ _ (⟨i + 1, hlt⟩) (by first | omega | (dsimp only; omega) | (simp; omega))) hS
          · skip
            refine zsx he ?_
            exact zn2 (hJ _ (⟨i + 1, hlt⟩) (by first | omega | (dsimp only; omega) | (simp; omega))) hS
    · rw [ust_1 (p := (o, k)) e] at hS
      rw [e] at fd
      refine zst ?_
      refine zcm (fq) ?_
      refine zcd (fd) ?_
      exact zn2 (hJ _ (⟨i + 1, hlt⟩) (by first | omega | (dsimp only; omega) | (simp; omega))) hS
  · obtain rfl : i = 6 := by omega
    refine zst ?_
    refine zcd (fa) ?_
    exact zrt m_okeep_ok
theorem oke_law {a0 : List Int} {v0 : Value} (W : World) (e0 : (Sh.slice (Sh.int .i64)).rd (old W) W a0 [v0]) :
    Calls Try.prog 4 #[v0] W fun e w' => e = .returned (.bool true) ∧ Below W.heap.size W w' :=
  Fnc.law (okeep_fn a0) (RdTs.slice enc_i64s e0 RdTs.nil')
end Go.Proofs.Ytkfpcgkmemfdaaa
