/- U15, U16, in one text. -/
import Derived.Test.YtkfpcgkmemfdaaaGreatUQ
import Derived.Test.YtkfpcgkmemfdaaaGreatC5
import Derived.Test.YtkfpcgkmemfdaaaGreatUF
import Derived.Test.YtkfpcgkmemfdaaaGreatUD
/- The deck: requests. -/
namespace Go.Proofs.YtkfpcgkmemfdaaaGreat
open Go Go.RowKit Rdn Rdn.Dp
set_option linter.unusedVariables false
set_option linter.unusedSimpArgs false
theorem m_req_ok : compF Tryz.prog 13 = some (107, Qr ([Qw 2 (.alloc 24 (.agg [.int .i64 0, .int .i64 0, .int .i64 0, .int .i64 0, .int .i64 0, .int .i64 0, .nilS, .nilS]))])
 (.seq (.dreg [Qm 7 0, Qq 8 21 [(.t 7), (Qi 4)], Qw 9 (.buildS 3 1 (.int .i64 0) 6 [(0, (Qi 1)), (1, (Qi 1)), (2, (Qi 1)), (3, (Qi 0)), (4, (Qi 2)), (5, (Qi 3))]), Qm 10 0, Qq 11 21 [(.t 10), (Qi 6)], Qx 12 1 9 11, Ql 13 1 12, Qm 14 0, Qq 15 21 [(.t 14), (Qi 50)], Qm 16 0, Qq 17 21 [(.t 16), (Qi 64)], Qw 18 (.build none [.int .i64 0, .int .i64 0, .int .i64 0, .int .i64 0, .int .i64 0, .int .i64 0, .nilS, .nilS] [(0, (.t 8)), (1, (.t 13)), (3, (.t 15)), (4, (.t 17))]), Qw 3 (.alloc 24 (.agg [.int .i64 0, .int .i64 0, .int .i64 0, .int .i64 0, .int .i64 0, .int .i64 0, .nilS, .nilS])), Qs 8 3 18] [[], [0], [], [], [0, 1, 3], [0, 1, 2, 3, 4], [0, 1, 2, 3, 4, 5], [], [0, 1, 3, 4, 7], [], [0, 1, 3, 4, 7, 8, 9], [0, 1, 2, 3, 4, 5, 6, 7, 8, 9, 10], [], [0, 1, 2, 3, 4, 5, 6, 7, 8, 9, 10, 11, 12]])
 (.seq (Qr ([Qf 19 1 1 3, Ql 20 1 19, Qk 21 .eql 20 2])
 (.cond (.t 21) (.reg [Qm 22 0, Qq 23 21 [(.t 22), (Qi 6)], Qp 24 (.bin 0 .add (Qi 1) (.t 23)), Qf 25 2 2 3, Qs 1 25 24]) (.skip)))
 (.seq (Qr ([Qf 26 1 1 3, Ql 27 1 26, Qk 28 .neq 27 1])
 (.cond (.t 28) (Qr ([QL 29 8 3, Qs 8 2 29])
 (.ret)) (.skip)))
 (Qr ([Qm 30 0, Qq 31 21 [(.t 30), (Qi 16)], Qf 32 5 5 3, Qs 1 32 31])
 (Qr ([Qw 33 (.buildS 9 1 (.str ByteArray.empty) 16 [(0, (.c (.str ⟨#[78]⟩))), (1, (.c (.str ⟨#[72, 80, 78]⟩))), (2, (.c (.str ⟨#[72, 80, 78]⟩))), (3, (.c (.str ⟨#[78, 78]⟩))), (4, (.c (.str ⟨#[72]⟩))), (5, (.c (.str ⟨#[72, 78]⟩))), (6, (.c (.str ByteArray.empty))), (7, (.c (.str ByteArray.empty))), (8, (.c (.str ⟨#[78]⟩))), (9, (.c (.str ⟨#[78]⟩))), (10, (.c (.str ⟨#[78, 88]⟩))), (11, (.c (.str ⟨#[78]⟩))), (12, (.c (.str ⟨#[78]⟩))), (13, (.c (.str ⟨#[78, 80, 78]⟩))), (14, (.c (.str ⟨#[78, 80, 78]⟩))), (15, (.c (.str ByteArray.empty)))]), Qf 34 5 5 3, Ql 35 1 34, Qx 36 1 33 35, Ql 37 1 36, Qm 4 37])
 (.seq (Qr ([Qm 38 4, Qw 39 (.bytes (.t 38)), Qn 40 39, Qp 41 (.mov (Qi 0))])
 (.block 0 (.loop (Qr ([Qb 42 .lss 41 40])
 (.seq (.cond (.t 42) (.skip) (.exit 0))
 (.seq (.block 1 (Qr ([Qx 43 1 39 41, Ql 44 1 43, Qm 6 44])
 (Qr ([Qm 45 6])
 (.block 2 (Qr ([Qp 55 (.bin 0 .eql (.t 45) (.c (.int .u8 78))), Qm 54 55])
 (.cond (.t 54) (.dreg [Qf 56 6 6 3, Ql 57 1 56, Qm 58 0, Qq 59 21 [(.t 58), (Qi 5)], Qp 60 (.conv .u16 (.t 59)), Qw 61 (.build none [.int .u8 0, .int .u16 0, .int .i64 0, .int .i64 0] [(1, (.t 60))]), Qw 62 (.buildS 43 4 (.agg [.int .u8 0, .int .u16 0, .int .i64 0, .int .i64 0]) 1 [(0, (.t 61))]), Qw 63 (.app 43 4 24 (.t 57) (.t 62)), Qf 64 6 6 3, Qs 1 64 63] [[], [0], [], [2], [2, 3], [2, 3, 4], [2, 3, 4, 5], [0, 1, 2, 3, 4, 5, 6], [0, 1, 2, 3, 4, 5, 6, 7], [0, 1, 2, 3, 4, 5, 6, 7, 8]]) (Qr ([Qp 66 (.bin 0 .eql (.t 45) (.c (.int .u8 72))), Qm 65 66])
 (.cond (.t 65) (.dreg [Qf 67 6 6 3, Ql 68 1 67, Qm 69 0, Qq 70 21 [(.t 69), (Qi 4)], Qp 71 (.conv .u16 (.t 70)), Qw 72 (.build none [.int .u8 0, .int .u16 0, .int .i64 0, .int .i64 0] [(0, (.c (.int .u8 2))), (1, (.t 71))]), Qw 73 (.buildS 43 4 (.agg [.int .u8 0, .int .u16 0, .int .i64 0, .int .i64 0]) 1 [(0, (.t 72))]), Qw 74 (.app 43 4 24 (.t 68) (.t 73)), Qf 75 6 6 3, Qs 1 75 74] [[], [0], [], [2], [2, 3], [2, 3, 4], [2, 3, 4, 5], [0, 1, 2, 3, 4, 5, 6], [0, 1, 2, 3, 4, 5, 6, 7], [0, 1, 2, 3, 4, 5, 6, 7, 8]]) (Qr ([Qp 77 (.bin 0 .eql (.t 45) (.c (.int .u8 80))), Qm 76 77])
 (.cond (.t 76) (.dreg [Qf 78 6 6 3, Ql 79 1 78, Qm 80 0, Qq 81 21 [(.t 80), (Qi 2)], Qm 82 0, Qq 83 21 [(.t 82), (Qi 4)], Qw 84 (.build none [.int .u8 0, .int .u16 0, .int .i64 0, .int .i64 0] [(0, (.c (.int .u8 1))), (2, (.t 81)), (3, (.t 83))]), Qw 85 (.buildS 43 4 (.agg [.int .u8 0, .int .u16 0, .int .i64 0, .int .i64 0]) 1 [(0, (.t 84))]), Qw 86 (.app 43 4 24 (.t 79) (.t 85)), Qf 87 6 6 3, Qs 1 87 86] [[], [0], [], [2], [], [2, 3, 4], [2, 3, 4, 5], [2, 3, 4, 5, 6], [0, 1, 2, 3, 4, 5, 6, 7], [0, 1, 2, 3, 4, 5, 6, 7, 8], [0, 1, 2, 3, 4, 5, 6, 7, 8, 9]]) (.dreg [Qf 46 6 6 3, Ql 47 1 46, Qm 48 0, Qw 49 (.buildS 3 1 (.int .i64 0) 2 [(0, (Qi 8)), (1, (Qi 4))]), Qq 50 45 [(.t 48), (.t 49)], Qw 51 (.buildS 43 4 (.agg [.int .u8 0, .int .u16 0, .int .i64 0, .int .i64 0]) 1 [(0, (.t 50))]), Qw 52 (.app 43 4 24 (.t 47) (.t 51)), Qf 53 6 6 3, Qs 1 53 52] [[], [0], [], [], [2, 3], [2, 3, 4], [0, 1, 2, 3, 4, 5], [0, 1, 2, 3, 4, 5, 6], [0, 1, 2, 3, 4, 5, 6, 7]])))))))))))
 (.reg [Qk 88 .add 41 1, Qm 41 88])))))))
 (.seq (Qr ([Qf 89 5 5 3, Ql 90 1 89, Qk 91 .eql 90 1, Qm 92 91, Q0 93 92 (.fieldA 5 5 (.t 3)), Q0 94 92 (.load false 1 (.t 93)), Q0 95 92 (.bin 0 .eql (.t 94) (Qi 13)), Qt 96 92 95])
 (.cond (.t 96) (.reg [Qm 97 0, Qq 98 46 [(.t 97), (Qi 6)], Qf 99 7 7 3, Qs 1 99 98]) (.skip)))
 (.seq (Qr ([Qm 100 0, Qq 101 21 [(.t 100), (Qi 10)], Qk 102 .eql 101 0])
 (.cond (.t 102) (.reg [Qm 103 0, Qq 104 46 [(.t 103), (Qi 3)], Qf 105 6 6 3, Qs 1 105 104]) (.skip)))
 (Qr ([QL 106 8 3, Qs 8 2 106])
 (.ret)))))))))), [.load true 8 (.t 2)]) := by kernel_rfl
/-- An argument of a kind. -/
def rqa (l : List Int) (c : Int) (k : Nat) : Canon × Nat :=
  if c = 78 then (⟨0, dnx l k 5, 0, 0⟩, dkx l k) else if c = 72 then (⟨2, dnx l k 4, 0, 0⟩, dkx l k) else if c = 80 then (⟨1, 0, dnx l k 2, dnx l (dkx l k) 4⟩, dkx l (dkx l k)) else dcn l k
theorem rqa_N {l : List Int} {c : Int} {k : Nat} (h : c = 78) : rqa l c k = (⟨0, dnx l k 5, 0, 0⟩, dkx l k) := by unfold rqa; rw [if_pos h]
theorem rqa_H {l : List Int} {c : Int} {k : Nat} (h : c = 72) : rqa l c k = (⟨2, dnx l k 4, 0, 0⟩, dkx l k) := by unfold rqa; rw [if_neg (by omega), if_pos h]
theorem rqa_P {l : List Int} {c : Int} {k : Nat} (h : c = 80) : rqa l c k = (⟨1, 0, dnx l k 2, dnx l (dkx l k) 4⟩, dkx l (dkx l k)) := by unfold rqa; rw [if_neg (by omega), if_neg (by omega), if_pos h]
theorem rqa_X {l : List Int} {c : Int} {k : Nat} (h1 : ¬ c = 78) (h2 : ¬ c = 72) (h3 : ¬ c = 80) : rqa l c k = dcn l k := by unfold rqa; rw [if_neg h1, if_neg h2, if_neg h3]
theorem rqa_le {l : List Int} {c : Int} {k : Nat} (h : k ≤ l.length) : (rqa l c k).2 ≤ l.length := by
  unfold rqa
  repeat' split
  · exact dkx_le h
  · exact dkx_le h
  · exact dkx_le (dkx_le h)
  · exact dcn_le k h
/-- The first n arguments of kinds. -/
def rqs (l : List Int) (c : List Int) (k : Nat) : Nat → List Canon × Nat
  | 0 => ([], k)
  | n + 1 => ((rqs l c k n).1 ++ [(rqa l c[n]! (rqs l c k n).2).1], (rqa l c[n]! (rqs l c k n).2).2)
theorem rqs_s {l c : List Int} {k n : Nat} : rqs l c k (n + 1) = ((rqs l c k n).1 ++ [(rqa l c[n]! (rqs l c k n).2).1], (rqa l c[n]! (rqs l c k n).2).2) := rfl
theorem rqs_le {l c : List Int} {k : Nat} (h : k ≤ l.length) : ∀ n, (rqs l c k n).2 ≤ l.length
  | 0 => h
  | n + 1 => rqa_le (rqs_le h n)
theorem rqs_len {l c : List Int} {k : Nat} : ∀ n, (rqs l c k n).1.length = n
  | 0 => rfl
  | n + 1 => by rw [rqs_s, List.length_append, rqs_len n]; rfl
def stopT (v : Int) : Int := if v = 3 then 0 else if v = 4 then 2 else if v = 5 then 3 else 1
/-- The arguments, the data and how far the deck is. -/
def rqD (l : List Int) (c : Int) (A : List Canon × Nat) : List Canon × Nat := if c = 1 ∨ c = 13 then dcs l A.2 6 else ([], A.2)
def rqe (l : List Int) (A D : List Canon × Nat) : List Canon × List Canon × Nat := if dnx l D.2 10 = 0 then ((dcs l (dkx l D.2) 3).1, D.1, (dcs l (dkx l D.2) 3).2) else (A.1, D.1, dkx l D.2)
def rqd (l : List Int) (c : Int) (k : Nat) : List Canon × List Canon × Nat := rqe l (rqs l (kl c) k (kl c).length) (rqD l c (rqs l (kl c) k (kl c).length))
/-- A request, and how far the deck is behind it. -/
def rq (l : List Int) (k0 : Nat) : Request × Nat :=
  let k1 := dkx l k0
  let k2 := dkx l k1
  let k3 := dkx l k2
  let k4 := dkx l k3
  let s := stopT (dnx l k1 6)
  if s = 2 then (⟨dnx l k0 4, s, 1 + dnx l k4 6, dnx l k2 50, dnx l k3 64, 0, [], []⟩, dkx l k4)
  else if s = 1 then (⟨dnx l k0 4, s, 0, dnx l k2 50, dnx l k3 64, dnx l k4 16, (rqd l (dnx l k4 16) (dkx l k4)).1, (rqd l (dnx l k4 16) (dkx l k4)).2.1⟩, (rqd l (dnx l k4 16) (dkx l k4)).2.2)
  else (⟨dnx l k0 4, s, 0, dnx l k2 50, dnx l k3 64, 0, [], []⟩, k4)
theorem stop_at {v : Int} (h0 : 0 ≤ v) (h1 : v < 6) : ([V.int .i64 1, V.int .i64 1, V.int .i64 1, V.int .i64 0, V.int .i64 2, V.int .i64 3] : List V).getD v.toNat V.junk = .int .i64 (stopT v) := by
  have h : v = 0 ∨ v = 1 ∨ v = 2 ∨ v = 3 ∨ v = 4 ∨ v = 5 := by omega
  rcases h with rfl | rfl | rfl | rfl | rfl | rfl <;> rfl
theorem kb_at {v : Int} (h0 : 0 ≤ v) (h1 : v < 16) : ([V.str ⟨#[78]⟩, V.str ⟨#[72, 80, 78]⟩, V.str ⟨#[72, 80, 78]⟩, V.str ⟨#[78, 78]⟩, V.str ⟨#[72]⟩, V.str ⟨#[72, 78]⟩, V.str ByteArray.empty, V.str ByteArray.empty, V.str ⟨#[78]⟩, V.str ⟨#[78]⟩, V.str ⟨#[78, 88]⟩, V.str ⟨#[78]⟩, V.str ⟨#[78]⟩, V.str ⟨#[78, 80, 78]⟩, V.str ⟨#[78, 80, 78]⟩, V.str ByteArray.empty] : List V).getD v.toNat V.junk = .str (kb v) := by
  rcases call_cases h0 (by omega) with rfl | rfl | rfl | rfl | rfl | rfl | rfl | rfl | rfl | rfl | rfl | rfl | rfl | rfl | rfl | rfl <;> rfl
theorem kb_bytes {v : Int} (h0 : 0 ≤ v) (h1 : v < 16) : ((kb v).data.toList.map fun b => V.int .u8 b.toNat) = (kl v).map (V.int .u8) := by
  rcases call_cases h0 (by omega) with rfl | rfl | rfl | rfl | rfl | rfl | rfl | rfl | rfl | rfl | rfl | rfl | rfl | rfl | rfl | rfl <;> rfl
attribute [local irreducible] stopT
set_option maxHeartbeats 16000000 in
theorem req_a (l : List Int) (k0 : Nat) (hk : k0 ≤ l.length) (hs : ¬ stopT (dnx l (dkx l k0) 6) = 1) : FncM Tryz.prog 13 64 (deckV l k0) [] (fun x obs d => x = reqV (rq l k0).1 ∧ obs = [] ∧ d = deckV l (rq l k0).2) := by
  refine FncM.low ?_
  have k1 := dkx_le hk
  have k2 := dkx_le k1
  have k3 := dkx_le k2
  have k4 := dkx_le k3
  have h1 := dnx_ge (l := l) (k := dkx l k0) (n := 6) (by omega)
  have h2 := dnx_lt (l := l) (k := dkx l k0) (n := 6) (by omega)
  have f1 := next_fn l k0 4 hk (by omega)
  have f2 := next_fn l (dkx l k0) 6 k1 (by omega)
  have f3 := next_fn l (dkx l (dkx l k0)) 50 k2 (by omega)
  have f4 := next_fn l (dkx l (dkx l (dkx l k0))) 64 k3 (by omega)
  have f5 := next_fn l (dkx l (dkx l (dkx l (dkx l k0)))) 6 k4 (by omega)
  have g1 := dnx_ge (l := l) (k := dkx l (dkx l (dkx l (dkx l k0)))) (n := 6) (by omega)
  have g2 := dnx_lt (l := l) (k := dkx l (dkx l (dkx l (dkx l k0)))) (n := 6) (by omega)
  have hT := stop_at h1 h2
  unfold rq
  dsimp only
  by_cases c : stopT (dnx l (dkx l k0) 6) = 2
  · rw [if_pos c]
    refine zgM m_req_ok fun W S b0 hb0 => ?_
    refine zcm (f1) ?_
    refine Rdn.Dp.zcn (f2) ?_
    refine zsx hT ?_
    refine zcm (f3) ?_
    refine zcm (f4) ?_
    refine zcm (f5) ?_
    refine ev_obSub 1 (.agg [_, _, _, _, _, _, .sl false 4 [], .sl false 4 []]) rfl (SubV.agg ⟨SubV.refl _, SubV.refl _, SubV.refl _, SubV.refl _, SubV.refl _, SubV.refl _, SubV.nil _ _, SubV.nil _ _, trivial⟩) rfl ?_
    exact zrm hb0 m_req_ok
  · rw [if_neg c, if_neg hs]
    refine zgM m_req_ok fun W S b0 hb0 => ?_
    refine zcm (f1) ?_
    refine Rdn.Dp.zcn (f2) ?_
    refine zsx hT ?_
    refine zcm (f3) ?_
    refine zcm (f4) ?_
    refine ev_obSub 1 (.agg [_, _, _, _, _, _, .sl false 4 [], .sl false 4 []]) rfl (SubV.agg ⟨SubV.refl _, SubV.refl _, SubV.refl _, SubV.refl _, SubV.refl _, SubV.refl _, SubV.nil _ _, SubV.nil _ _, trivial⟩) rfl ?_
    exact zrm hb0 m_req_ok
attribute [local irreducible] kb kl
abbrev kst : List V := [V.str ⟨#[78]⟩, V.str ⟨#[72, 80, 78]⟩, V.str ⟨#[72, 80, 78]⟩, V.str ⟨#[78, 78]⟩, V.str ⟨#[72]⟩, V.str ⟨#[72, 78]⟩, V.str ByteArray.empty, V.str ByteArray.empty, V.str ⟨#[78]⟩, V.str ⟨#[78]⟩, V.str ⟨#[78, 88]⟩, V.str ⟨#[78]⟩, V.str ⟨#[78]⟩, V.str ⟨#[78, 80, 78]⟩, V.str ⟨#[78, 80, 78]⟩, V.str ByteArray.empty]
set_option maxHeartbeats 16000000 in
theorem req_b (l : List Int) (k0 : Nat) (hk : k0 ≤ l.length) (hs : stopT (dnx l (dkx l k0) 6) = 1) : FncM Tryz.prog 13 64 (deckV l k0) [] (fun x obs d => x = reqV (rq l k0).1 ∧ obs = [] ∧ d = deckV l (rq l k0).2) := by
  refine FncM.low ?_
  have m1 := dkx_le hk
  have m2 := dkx_le m1
  have m3 := dkx_le m2
  have m4 := dkx_le m3
  have m5 := dkx_le m4
  have h1 := dnx_ge (l := l) (k := dkx l k0) (n := 6) (by omega)
  have h2 := dnx_lt (l := l) (k := dkx l k0) (n := 6) (by omega)
  have f1 := next_fn l k0 4 hk (by omega)
  have f2 := next_fn l (dkx l k0) 6 m1 (by omega)
  have f3 := next_fn l (dkx l (dkx l k0)) 50 m2 (by omega)
  have f4 := next_fn l (dkx l (dkx l (dkx l k0))) 64 m3 (by omega)
  have f5 := next_fn l (dkx l (dkx l (dkx l (dkx l k0)))) 16 m4 (by omega)
  have g1 := dnx_ge (l := l) (k := dkx l (dkx l (dkx l (dkx l k0)))) (n := 16) (by omega)
  have g2 := dnx_lt (l := l) (k := dkx l (dkx l (dkx l (dkx l k0)))) (n := 16) (by omega)
  have hT := stop_at h1 h2
  rw [hs] at hT
  have hq := kb_at g1 g2
  have hB := kb_bytes g1 g2
  have h3 := kl_len (dnx l (dkx l (dkx l (dkx l (dkx l k0)))) 16)
  have hz : (kb (dnx l (dkx l (dkx l (dkx l (dkx l k0)))) 16)).data.toList.length = (kl (dnx l (dkx l (dkx l (dkx l (dkx l k0)))) 16)).length := by
    have := congrArg List.length hB
    simpa using this
  have hsz := (kb_kl (dnx l (dkx l (dkx l (dkx l (dkx l k0)))) 16)).1
  unfold rq
  dsimp only
  rw [hs, if_neg (by decide), if_pos rfl]
  generalize hk5 : dkx l (dkx l (dkx l (dkx l (dkx l k0)))) = k5 at m5 f5 ⊢
  generalize hcc : dnx l (dkx l (dkx l (dkx l (dkx l k0)))) 16 = c at f5 g1 g2 hq hB h3 hz hsz ⊢
  generalize dnx l k0 4 = th at f1 ⊢
  generalize dnx l (dkx l (dkx l k0)) 50 = cnt at f3 ⊢
  generalize dnx l (dkx l (dkx l (dkx l k0))) 64 = pc at f4 ⊢
  have hd : rqd l c k5 = rqe l (rqs l (kl c) k5 (kl c).length) (rqD l c (rqs l (kl c) k5 (kl c).length)) := rfl
  generalize hkl : kl c = kc at hB h3 hz hsz hd
  have hdA : rqs l kc k5 kc.length = rqs l kc k5 kc.length := rfl
  refine zgM m_req_ok fun W S b0 hb0 => ?_
  refine zcm (f1) ?_
  refine Rdn.Dp.zcn (f2) ?_
  refine zsx hT ?_
  refine zcm (f3) ?_
  refine zcm (f4) ?_
  refine Rdn.Dp.zcn (f5) ?_
  refine zsx (And.intro hq (And.intro hB (hz))) ?_
  refine ev_adoptB 2 6 43 4 rfl rfl (by decide) rfl ?_
  refine ev_loopK [0, 2, 3, 39, 40] (fun p : {p : Nat // p ≤ kc.length} => [(41, .int .i64 p.1)]) (fun p => [⟨.box true 64, true, 0, deckV l (rqs l kc k5 p.1).2⟩, ⟨.box false 24, true, 0, .agg [.int .i64 0, .int .i64 0, .int .i64 0, .int .i64 0, .int .i64 0, .int .i64 0, .nilS, .nilS]⟩, ⟨.box false 24, true, 1, .agg [.int .i64 th, .int .i64 1, .int .i64 0, .int .i64 cnt, .int .i64 pc, .int .i64 c, .own 4 p.1, .nilS]⟩, ⟨.row 9, true, 0, .arr 1 kst⟩, ⟨.row 43, true, p.1, .arr 4 ((rqs l kc k5 p.1).1.map canonV)⟩]) (fun p => kc.length - p.1) (⟨0, by simp⟩) 5 (by simp only [go_sem]; rfl) ?_ (by first | rfl | (simp only [go_sem]; done) | (simp only [go_sem]; simp [rqs]; done)) (by simp) (by first | rfl | (simp only [go_sem]; done)) (by first | rfl | (simp only [go_sem]; done)) (by first | rfl | (simp only [go_sem]; done) | (simp only [rqs]; (try simp only [go_sem]); first | done | rfl)) ?_
  · (simp only [go_sem]; (try simp [rqs]); done)
  intro J hJ
  rintro ⟨i, hi⟩
  have hp := rqs_le (c := kc) m5 i
  have hlen := rqs_len (l := l) (c := kc) (k := k5) i
  by_cases hlt : i < kc.length
  · have hs' := rqs_s (l := l) (c := kc) (k := k5) (n := i)
    generalize hq' : rqs l kc k5 i = q at hp hlen hs'
    by_cases c1 : kc[i]! = 78
    · rw [rqa_N c1] at hs'
      have e1 := dnx_ge (l := l) (k := q.2) (n := 5) (by omega)
      have e2 := dnx_lt (l := l) (k := q.2) (n := 5) (by omega)
      refine zsx c1 ?_
      refine zcm (next_fn l q.2 5 hp (by omega)) ?_
      refine ev_next 5 (hJ _ (⟨i + 1, hlt⟩) (by first | omega | (dsimp only; omega) | (simp; omega))) rfl (by simp) ?_ (by first | rfl | (simp only [go_sem]; done)) (by first | rfl | (simp only [go_sem]; done) | (simp only [hs']; (try simp only [go_sem]); first | done | rfl)) ?_
      · (first | rfl | (simp only [go_sem]; done) | (simp only [go_sem]; simp only [hs']; done) | (simp only [hs']; done) | (simp only [go_sem]; simp [hs']; done) | (simp [hs']; done))
      · (simp only [go_sem]; (repeat' (refine And.intro ?_ ?_)) <;> first | exact trivial | with_reducible rfl | (simp only [hs']; done) | (simp only [hs']; with_reducible rfl) | (simp [hs']; done) | (simp [hs']; omega) | (simp only [hs']; rfl) | skip)
    by_cases c2 : kc[i]! = 72
    · rw [rqa_H c2] at hs'
      have e1 := dnx_ge (l := l) (k := q.2) (n := 4) (by omega)
      have e2 := dnx_lt (l := l) (k := q.2) (n := 4) (by omega)
      refine zsx c2 ?_
      refine zcm (next_fn l q.2 4 hp (by omega)) ?_
      refine ev_next 5 (hJ _ (⟨i + 1, hlt⟩) (by first | omega | (dsimp only; omega) | (simp; omega))) rfl (by simp) ?_ (by first | rfl | (simp only [go_sem]; done)) (by first | rfl | (simp only [go_sem]; done) | (simp only [hs']; (try simp only [go_sem]); first | done | rfl)) ?_
      · (first | rfl | (simp only [go_sem]; done) | (simp only [go_sem]; simp only [hs']; done) | (simp only [hs']; done) | (simp only [go_sem]; simp [hs']; done) | (simp [hs']; done))
      · (simp only [go_sem]; (repeat' (refine And.intro ?_ ?_)) <;> first | exact trivial | with_reducible rfl | (simp only [hs']; done) | (simp only [hs']; with_reducible rfl) | (simp [hs']; done) | (simp [hs']; omega) | (simp only [hs']; rfl) | skip)
    by_cases c3 : kc[i]! = 80
    · rw [rqa_P c3] at hs'
      refine zsx c3 ?_
      refine zcm (next_fn l q.2 2 hp (by omega)) ?_
      refine zcm (next_fn l (dkx l q.2) 4 (dkx_le hp) (by omega)) ?_
      refine ev_next 5 (hJ _ (⟨i + 1, hlt⟩) (by first | omega | (dsimp only; omega) | (simp; omega))) rfl (by simp) ?_ (by first | rfl | (simp only [go_sem]; done)) (by first | rfl | (simp only [go_sem]; done) | (simp only [hs']; (try simp only [go_sem]); first | done | rfl)) ?_
      · (first | rfl | (simp only [go_sem]; done) | (simp only [go_sem]; simp only [hs']; done) | (simp only [hs']; done) | (simp only [go_sem]; simp [hs']; done) | (simp [hs']; done))
      · (simp only [go_sem]; (repeat' (refine And.intro ?_ ?_)) <;> first | exact trivial | with_reducible rfl | (simp only [hs']; done) | (simp only [hs']; with_reducible rfl) | (simp [hs']; done) | (simp [hs']; omega) | (simp only [hs']; rfl) | skip)
    · rw [rqa_X c1 c2 c3] at hs'
      refine zst ?_
      refine zcm (canon_fn l q.2 hp) ?_
      refine ev_next 5 (hJ _ (⟨i + 1, hlt⟩) (by first | omega | (dsimp only; omega) | (simp; omega))) rfl (by simp) ?_ (by first | rfl | (simp only [go_sem]; done)) (by first | rfl | (simp only [go_sem]; done) | (simp only [hs']; (try simp only [go_sem]); first | done | rfl)) ?_
      · (first | rfl | (simp only [go_sem]; done) | (simp only [go_sem]; simp only [hs']; done) | (simp only [hs']; done) | (simp only [go_sem]; simp [hs']; done) | (simp [hs']; done))
      · (simp only [go_sem]; (repeat' (refine And.intro ?_ ?_)) <;> first | exact trivial | with_reducible rfl | (simp only [hs']; done) | (simp only [hs']; with_reducible rfl) | (simp [hs']; done) | (simp [hs']; omega) | (simp only [hs']; rfl) | skip)
  · obtain rfl : i = kc.length := by omega
    generalize rqs l kc k5 kc.length = A at hp hlen hd ⊢
    have q1 := dcs_le hp 6
    have q2 := dcs_len (l := l) (k := A.2) (n := 6) (by omega)
    have fz := canons_sl l A.2 6 hp (by omega) (by omega)
    by_cases d1 : c = 1
    · skip
      rw [show rqD l c A = dcs l A.2 6 from if_pos (by omega)] at hd
      have r1 := dnx_ge (l := l) (k := (dcs l A.2 6).2) (n := 10) (by omega)
      by_cases z : dnx l (dcs l A.2 6).2 10 = 0
      · rw [rqe, if_pos z] at hd
        rw [hd]
        dsimp only
        refine zst ?_
        refine zcm (fz) ?_
        refine zcm (next_fn l (dcs l A.2 6).2 10 q1 (by omega)) ?_
        refine zcm (canons_sl l (dkx l (dcs l A.2 6).2) 3 (dkx_le q1) (by omega) (by omega)) ?_
        exact zrm hb0 m_req_ok
      · rw [rqe, if_neg z] at hd
        rw [hd]
        dsimp only
        refine zst ?_
        refine zcm (fz) ?_
        refine zcm (next_fn l (dcs l A.2 6).2 10 q1 (by omega)) ?_
        exact zrm hb0 m_req_ok
    by_cases d2 : c = 13
    · skip
      rw [show rqD l c A = dcs l A.2 6 from if_pos (by omega)] at hd
      have r1 := dnx_ge (l := l) (k := (dcs l A.2 6).2) (n := 10) (by omega)
      by_cases z : dnx l (dcs l A.2 6).2 10 = 0
      · rw [rqe, if_pos z] at hd
        rw [hd]
        dsimp only
        refine zst ?_
        refine zcm (fz) ?_
        refine zcm (next_fn l (dcs l A.2 6).2 10 q1 (by omega)) ?_
        refine zcm (canons_sl l (dkx l (dcs l A.2 6).2) 3 (dkx_le q1) (by omega) (by omega)) ?_
        exact zrm hb0 m_req_ok
      · rw [rqe, if_neg z] at hd
        rw [hd]
        dsimp only
        refine zst ?_
        refine zcm (fz) ?_
        refine zcm (next_fn l (dcs l A.2 6).2 10 q1 (by omega)) ?_
        exact zrm hb0 m_req_ok
    · skip
      rw [show rqD l c A = ([], A.2) from if_neg (by omega)] at hd
      have r1 := dnx_ge (l := l) (k := A.2) (n := 10) (by omega)
      by_cases z : dnx l A.2 10 = 0
      · rw [rqe, if_pos z] at hd
        rw [hd]
        dsimp only
        refine zst ?_
        refine zcm (next_fn l A.2 10 hp (by omega)) ?_
        refine zcm (canons_sl l (dkx l A.2) 3 (dkx_le hp) (by omega) (by omega)) ?_
        refine ev_obSub 1 (.agg [_, _, _, _, _, _, _, .sl false 4 []]) rfl (SubV.agg ⟨SubV.refl _, SubV.refl _, SubV.refl _, SubV.refl _, SubV.refl _, SubV.refl _, SubV.refl _, SubV.nil _ _, trivial⟩) rfl ?_
        exact zrm hb0 m_req_ok
      · rw [rqe, if_neg z] at hd
        rw [hd]
        dsimp only
        refine zst ?_
        refine zcm (next_fn l A.2 10 hp (by omega)) ?_
        refine ev_obSub 1 (.agg [_, _, _, _, _, _, _, .sl false 4 []]) rfl (SubV.agg ⟨SubV.refl _, SubV.refl _, SubV.refl _, SubV.refl _, SubV.refl _, SubV.refl _, SubV.refl _, SubV.nil _ _, trivial⟩) rfl ?_
        exact zrm hb0 m_req_ok
theorem req_fn (l : List Int) (k : Nat) (hk : k ≤ l.length) : FncM Tryz.prog 13 64 (deckV l k) [] (fun x obs d => x = reqV (rq l k).1 ∧ obs = [] ∧ d = deckV l (rq l k).2) := by
  by_cases h : stopT (dnx l (dkx l k) 6) = 1
  · exact req_b l k hk h
  · exact req_a l k hk h
theorem rqe_le {l : List Int} {A D : List Canon × Nat} (h : D.2 ≤ l.length) : (rqe l A D).2.2 ≤ l.length := by
  unfold rqe
  split
  · exact dcs_le (dkx_le h) 3
  · exact dkx_le h
theorem rqe_len {l : List Int} {A D : List Canon × Nat} (h : A.1.length ≤ 3) : (rqe l A D).1.length ≤ 3 := by
  unfold rqe
  split
  · exact dcs_len (l := l) (k := dkx l D.2) (n := 3) (by omega)
  · exact h
theorem rqd_le {l : List Int} {c : Int} {k : Nat} (h : k ≤ l.length) : (rqd l c k).2.2 ≤ l.length := by
  have h1 := rqs_le (c := kl c) h (kl c).length
  refine rqe_le ?_
  unfold rqD
  split
  · exact dcs_le h1 6
  · exact h1
theorem rqd_len {l : List Int} {c : Int} {k : Nat} : (rqd l c k).1.length ≤ 3 := by
  have h3 := kl_len c
  refine rqe_len ?_
  rw [rqs_len]; exact h3
theorem rq_le {l : List Int} {k : Nat} (h : k ≤ l.length) : (rq l k).2 ≤ l.length := by
  have h4 := dkx_le (dkx_le (dkx_le (dkx_le h)))
  unfold rq
  dsimp only
  repeat' split
  · exact dkx_le h4
  · exact rqd_le (dkx_le h4)
  · exact h4
theorem rq_len {l : List Int} {k : Nat} : (rq l k).1.args.length ≤ 3 := by
  unfold rq
  dsimp only
  repeat' split
  · exact Nat.zero_le _
  · exact rqd_len
  · exact Nat.zero_le _
end Go.Proofs.YtkfpcgkmemfdaaaGreat
/- The outside, drawn and used; which results are valid and equal. -/
namespace Go.Proofs.YtkfpcgkmemfdaaaGreat
open Go Go.RowKit Rdn Rdn.Dp
set_option linter.unusedVariables false
set_option linter.unusedSimpArgs false
theorem m_rress_ok : compF Tryz.prog 16 = some (31, Qr ([Qw 2 (.box 54 (.t 0)), Qw 3 (.box 54 (.t 1)), Qc 4 (.bool false)])
 (Qr ([Qf 5 0 0 2, QL 6 4 5, Qf 7 0 0 3, QL 8 4 7, Qp 9 (.eqs false [(some .u8), (some .u16), (some .i64), (some .i64)] (.t 6) (.t 8)), Qm 10 9, Q1 11 10 (.fieldA 4 1 (.t 2)), Q1 12 10 (.load false 1 (.t 11)), Q1 13 10 (.fieldA 4 1 (.t 3)), Q1 14 10 (.load false 1 (.t 13)), ⟨(some 15), (some (10, true)), (.call 71 [(.t 12), (.t 14)])⟩, Qu 16 10 15, Qm 17 16, Q1 18 17 (.fieldA 5 2 (.t 2)), Q1 19 17 (.load false 1 (.t 18)), Q1 20 17 (.fieldA 5 2 (.t 3)), Q1 21 17 (.load false 1 (.t 20)), Q1 22 17 (.bin 0 .eql (.t 19) (.t 21)), Qu 23 17 22, Qm 24 23, Q1 25 24 (.fieldA 6 3 (.t 2)), Q1 26 24 (.load false 1 (.t 25)), Q1 27 24 (.fieldA 6 3 (.t 3)), Q1 28 24 (.load false 1 (.t 27)), Q1 29 24 (.bin 1 .eql (.t 26) (.t 28)), Qu 30 24 29, Qm 4 30])
 (.ret)), [.mov (.t 4)]) := by kernel_rfl
theorem m_used_ok : compF Tryz.prog 6 = some (28, Qr ([Qw 2 (.alloc 37 (.agg [.nilS, .nilS, .nilS, .agg [.nilS, .nilS], .nilS]))])
 (Qr ([Qm 8 0, Qq 9 20 [(.t 8)], Qw 3 (.alloc 37 (.agg [.nilS, .nilS, .nilS, .agg [.nilS, .nilS], .nilS])), Qs 6 3 9])
 (.seq (Qr ([Qm 10 0, Qq 11 21 [(.t 10), (Qi 10)], Qm 4 11])
 (.block 0 (.loop (.seq (Qr ([Qm 12 4, Qk 13 .gtr 12 0])
 (.cond (.t 13) (.skip) (.exit 0)))
 (.seq (.block 1 (.seq (.dreg [QL 17 6 3, Qm 18 0, Qq 19 13 [(.t 18)], Qq 20 15 [(.t 17), (.t 19)], Qm 16 20, Qe 21 16 0, Qe 22 16 1, Qe 23 16 2, Qw 5 (.alloc 37 (.agg [.nilS, .nilS, .nilS, .agg [.nilS, .nilS], .nilS])), Qw 6 (.alloc 54 (.agg [.agg [.int .u8 0, .int .u16 0, .int .i64 0, .int .i64 0], .nilS, .int .i64 0, .bool false])), Qs 6 5 21, Qs 7 6 22, Qm 7 23] [[], [], [1], [0, 1, 2], [0, 1, 2, 3], [0, 1, 2, 3, 4], [0, 1, 2, 3, 4], [0, 1, 2, 3, 4], [], [], [0, 1, 2, 3, 4, 5, 8, 9], [0, 1, 2, 3, 4, 5, 6, 8, 9, 10], [0, 1, 2, 3, 4, 5, 6, 7, 8, 9, 10, 11]])
 (Qr ([Qm 24 7, Qk 25 .eql 24 0])
 (.cond (.t 25) (.reg [QL 26 6 5, Qs 6 3 26]) (.skip)))))
 (.reg [Qm 14 4, Qk 15 .sub 14 1, Qm 4 15]))))))
 (Qr ([QL 27 6 3, Qs 6 2 27])
 (.ret)))), [.load true 6 (.t 2)]) := by kernel_rfl
set_option maxHeartbeats 4000000 in
theorem rress_eq (r : Rdn.Result) : Fnc Tryz.prog 16 [resV r, resV r] (fun x obs => x = .bool true ∧ obs = []) := by
  have f := samec_fn r.data r.data
  rw [show decide (r.data = r.data) = true from decT rfl] at f
  refine zgo m_rress_ok fun W S => ?_
  refine zcd (f) ?_
  exact zrt m_rress_ok
/-- The outside drawn first. -/
def ou0 (l : List Int) (k : Nat) : Rdn.Outside × Nat := (⟨(dws l (dws l (dws l (dws l (dws l k 5).2 3).2 8).2 4).2 5).1, (dws l (dws l (dws l (dws l (dws l (dws l k 5).2 3).2 8).2 4).2 5).2 5).1, [(dws l (dws l (dws l k 5).2 3).2 8).1, (dws l (dws l (dws l (dws l k 5).2 3).2 8).2 4).1], ⟨[numC (dws l k 5).1, numC (dws l (dws l k 5).2 3).1], eight⟩, []⟩, (dws l (dws l (dws l (dws l (dws l (dws l k 5).2 3).2 8).2 4).2 5).2 5).2)
theorem ou0_le {l : List Int} {k : Nat} (h : k ≤ l.length) : (ou0 l k).2 ≤ l.length := dws_le (dws_le (dws_le (dws_le (dws_le (dws_le h 5) 3) 8) 4) 5) 5
theorem ou0_fit {l : List Int} {k : Nat} : FitO (ou0 l k).1 := by
  have n1 := dws_len (l := l) (k := k) (n := 5) (by omega)
  have n2 := dws_len (l := l) (k := (dws l k 5).2) (n := 3) (by omega)
  have n3 := dws_len (l := l) (k := (dws l (dws l k 5).2 3).2) (n := 8) (by omega)
  have n4 := dws_len (l := l) (k := (dws l (dws l (dws l k 5).2 3).2 8).2) (n := 4) (by omega)
  have n5 := dws_len (l := l) (k := (dws l (dws l (dws l (dws l k 5).2 3).2 8).2 4).2) (n := 5) (by omega)
  have n6 := dws_len (l := l) (k := (dws l (dws l (dws l (dws l (dws l k 5).2 3).2 8).2 4).2 5).2) (n := 5) (by omega)
  unfold ou0
  generalize dws l (dws l (dws l (dws l (dws l (dws l k 5).2 3).2 8).2 4).2 5).2 5 = q6 at n6 ⊢
  generalize dws l (dws l (dws l (dws l (dws l k 5).2 3).2 8).2 4).2 5 = q5 at n5 ⊢
  generalize dws l (dws l (dws l (dws l k 5).2 3).2 8).2 4 = q4 at n4 ⊢
  generalize dws l (dws l (dws l k 5).2 3).2 8 = q3 at n3 ⊢
  generalize dws l (dws l k 5).2 3 = q2 at n2 ⊢
  generalize dws l k 5 = q1 at n1 ⊢
  refine ⟨by dsimp only; omega, by dsimp only; omega, by simp, ?_, ?_, by simp, fun j hj => absurd hj (Nat.not_lt_zero j), by simp⟩
  · intro x hx
    simp only [List.mem_cons, List.mem_nil_iff, or_false] at hx
    rcases hx with rfl | rfl <;> omega
  · refine new_fit (data := [q1.1, q2.1]) (.inr ⟨by simp, ?_⟩)
    intro x hx
    simp only [List.mem_cons, List.mem_nil_iff, or_false] at hx
    rcases hx with rfl | rfl <;> omega
set_option maxHeartbeats 8000000 in
theorem outs_fn' (l : List Int) (k : Nat) (hk : k ≤ l.length) : FncM Tryz.prog 20 64 (deckV l k) [] (fun x obs d => x = .agg [owV (ou0 l k).1.clock, owV (ou0 l k).1.random, .sl false 1 ((ou0 l k).1.inputs.map (slV' false 1 (V.int .u16))), filV (ou0 l k).1.files, .nilS] ∧ obs = [] ∧ d = deckV l (ou0 l k).2) := outs_fn l k hk
noncomputable def ust (l : List Int) (p : Rdn.Outside × Nat) : Rdn.Outside × Nat := (if (sDo p.1 (rq l p.2).1).2.2 = 0 then (sDo p.1 (rq l p.2).1).1 else p.1, (rq l p.2).2)
noncomputable def usn (l : List Int) (p : Rdn.Outside × Nat) : Nat → Rdn.Outside × Nat
  | 0 => p
  | n + 1 => ust l (usn l p n)
noncomputable def usd (l : List Int) (k : Nat) : Rdn.Outside × Nat := usn l ((ou0 l k).1, dkx l (ou0 l k).2) (dnx l (ou0 l k).2 10).toNat
theorem ust_fit {l : List Int} {p : Rdn.Outside × Nat} (h : FitO p.1) (hk : p.2 ≤ l.length) : FitO (ust l p).1 ∧ (ust l p).2 ≤ l.length := by
  unfold ust
  refine ⟨?_, rq_le hk⟩
  dsimp only
  split
  · rename_i e
    exact (sDo_fit e).1
  · exact h
theorem usn_fit {l : List Int} {p : Rdn.Outside × Nat} (h : FitO p.1) (hk : p.2 ≤ l.length) : ∀ n, FitO (usn l p n).1 ∧ (usn l p n).2 ≤ l.length
  | 0 => ⟨h, hk⟩
  | n + 1 => ust_fit (usn_fit h hk n).1 (usn_fit h hk n).2
theorem usd_fit {l : List Int} {k : Nat} (h : k ≤ l.length) : FitO (usd l k).1 ∧ (usd l k).2 ≤ l.length := usn_fit (p := ((ou0 l k).1, dkx l (ou0 l k).2)) ou0_fit (dkx_le (ou0_le h)) _
theorem usn_s {l : List Int} {p : Rdn.Outside × Nat} {n : Nat} : usn l p (n + 1) = ust l (usn l p n) := rfl
theorem sDo_e (o : Rdn.Outside) (q : Request) : (sDo o q).2.2 = 0 ∨ (sDo o q).2.2 = 1 := by
  cases h : okDo o q with
  | true => rw [sDo_T h]; exact .inl rfl
  | false => rw [sDo_F h]; exact .inr rfl
attribute [local irreducible] sDo rq ou0 usn
set_option maxHeartbeats 8000000 in
theorem used_fn (l : List Int) (k : Nat) (hk : k ≤ l.length) : FncM Tryz.prog 6 64 (deckV l k) [] (fun x obs d => x = outsV (usd l k).1 ∧ obs = [] ∧ d = deckV l (usd l k).2) := by
  refine FncM.low ?_
  have f1 := outs_fn' l k hk
  have k1 := ou0_le hk
  have F0 := ou0_fit (l := l) (k := k)
  have f2 := next_fn l (ou0 l k).2 10 k1 (by omega)
  have hU := fun n => usn_fit (l := l) (p := ((ou0 l k).1, dkx l (ou0 l k).2)) F0 (dkx_le k1) n
  have b1 := dnx_ge (l := l) (k := (ou0 l k).2) (n := 10) (by omega)
  have b2 := dnx_lt (l := l) (k := (ou0 l k).2) (n := 10) (by omega)
  unfold usd
  have h0 : usn l ((ou0 l k).1, dkx l (ou0 l k).2) 0 = ((ou0 l k).1, dkx l (ou0 l k).2) := by unfold usn; rfl
  refine zgM m_used_ok fun W S b0 hb0 => ?_
  refine zcm (f1) ?_
  refine zcm (f2) ?_
  refine ev_obSub 2 (.agg [_, _, _, _, .sl false 3 []]) rfl (SubV.agg ⟨SubV.refl _, SubV.refl _, SubV.refl _, SubV.refl _, SubV.nil _ _, trivial⟩) rfl ?_
  have ho : (ou0 l k).1.outputs = [] := by unfold ou0; rfl
  have hz : outsV ⟨(ou0 l k).1.clock, (ou0 l k).1.random, (ou0 l k).1.inputs, (ou0 l k).1.files, []⟩ = outsV (ou0 l k).1 := by
    unfold ou0; rfl
  generalize hP : ((ou0 l k).1, dkx l (ou0 l k).2) = P at hU h0 ⊢
  have hP1 : P.1 = (ou0 l k).1 := by rw [← hP]
  have hP2 : P.2 = dkx l (ou0 l k).2 := by rw [← hP]
  refine ev_loopK [0, 2, 3] (fun p : {p : Nat // p ≤ (dnx l (ou0 l k).2 10).toNat} => [(4, .int .i64 (dnx l (ou0 l k).2 10 - p.1))]) (fun p => [⟨.box true 64, true, 0, deckV l (usn l P p.1).2⟩, ⟨.box false 37, true, 0, .agg [.nilS, .nilS, .nilS, .agg [.nilS, .nilS], .nilS]⟩, ⟨.box false 37, true, 0, outsV (usn l P p.1).1⟩]) (fun p => (dnx l (ou0 l k).2 10).toNat - p.1) (⟨0, by simp⟩) 3 (by simp only [go_sem]; rfl) ?_ (by first | rfl | (simp only [go_sem]; done) | (simp only [go_sem]; simp [h0, hP1, hP2, hz, ho]; done)) (by simp) (by first | rfl | (simp only [go_sem]; done) | (simp only [h0, hP1, hP2, hz, ho]; (try simp only [go_sem]); first | done | rfl)) (by first | rfl | (simp only [go_sem]; done)) (by first | rfl | (simp only [go_sem]; done) | (simp only [h0, hP1, hP2, hz, ho]; (try simp only [go_sem]); first | done | rfl)) ?_
  · (simp only [go_sem]; (try simp [h0, hP1, hP2, hz, ho]); done)
  intro J hJ
  rintro ⟨i, hi⟩
  by_cases hlt : i < (dnx l (ou0 l k).2 10).toNat
  · obtain ⟨hF, hk⟩ := hU i
    have hS : usn l P (i + 1) = ust l (usn l P i) := usn_s
    generalize usn l P i = p at hF hk hS
    have fq := req_fn l p.2 hk
    have fd := rdo_fn p.1 (rq l p.2).1 (by have := rq_len (l := l) (k := p.2); omega)
    rcases sDo_e p.1 (rq l p.2).1 with e | e
    · rw [show ust l p = ((sDo p.1 (rq l p.2).1).1, (rq l p.2).2) by unfold ust; rw [if_pos e]] at hS
      rw [e] at fd
      refine zst ?_
      refine zcm (fq) ?_
      refine zcd (fd) ?_
      exact zn3 (hJ _ (⟨i + 1, hlt⟩) (by first | omega | (dsimp only; omega) | (simp; omega))) hS
    · rw [show ust l p = (p.1, (rq l p.2).2) by unfold ust; rw [if_neg (by rw [e]; decide)]] at hS
      rw [e] at fd
      refine zst ?_
      refine zcm (fq) ?_
      refine zcd (fd) ?_
      exact zn3 (hJ _ (⟨i + 1, hlt⟩) (by first | omega | (dsimp only; omega) | (simp; omega))) hS
  · obtain rfl : i = (dnx l (ou0 l k).2 10).toNat := by omega
    refine zst ?_
    exact zrm hb0 m_used_ok
end Go.Proofs.YtkfpcgkmemfdaaaGreat
