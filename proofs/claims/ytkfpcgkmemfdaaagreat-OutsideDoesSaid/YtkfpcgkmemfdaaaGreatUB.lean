/- U8, U9, U10a, in one text. -/
import Derived.Test.YtkfpcgkmemfdaaaGreatUQ
import Derived.Test.YtkfpcgkmemfdaaaGreatC5
/- The outside: clock and random numbers. -/
namespace Go.Proofs.YtkfpcgkmemfdaaaGreat
open Go Go.RowKit Rdn Rdn.Dp
set_option linter.unusedVariables false
set_option linter.unusedSimpArgs false
theorem m_wnumb_ok : compF Tryz.prog 50 = some (6, Qr ([Qw 2 (.alloc 43 (.agg [.int .u8 0, .int .u16 0, .int .i64 0, .int .i64 0]))])
 (Qr ([Qm 3 0, Qp 4 (.conv .u16 (.t 3)), Qw 5 (.build none [.int .u8 0, .int .u16 0, .int .i64 0, .int .i64 0] [(0, (.c (.int .u8 0))), (1, (.t 4))]), Qs 4 2 5])
 (.ret)), [.load true 4 (.t 2)]) := by kernel_rfl
theorem m_wfirst_ok : compF Tryz.prog 57 = some (17, Qr ([Qp 2 (.mov (.c (.nilS))), Qw 3 (.alloc 43 (.agg [.int .u8 0, .int .u16 0, .int .i64 0, .int .i64 0])), Qc 4 (.bool false)])
 (.seq (Qr ([Qm 5 0, Qn 6 5, Qk 7 .eql 6 0])
 (.cond (.t 7) (Qr ([Qm 8 0, Qw 9 (.build none [.int .u8 0, .int .u16 0, .int .i64 0, .int .i64 0] []), Qm 2 8, Qs 4 3 9, Qc 4 (.bool false)])
 (.ret)) (.skip)))
 (.seq (.dreg [Qm 10 0, Qw 11 (.sl 1 (.t 10) (some (Qi 1)) none none), Qm 12 0, Qp 13 (.idxA 1 (.t 12) (Qi 0)), Ql 14 1 13, Qp 15 (.conv .i64 (.t 14)), Qq 16 50 [(.t 15)], Qm 2 11, Qs 4 3 16, Qc 4 (.bool true)] [[], [0], [], [2], [2, 3], [2, 3, 4], [2, 3, 4, 5], [0, 1, 2, 3, 4, 5, 6], [0, 1, 2, 3, 4, 5, 6, 7], [0, 1, 2, 3, 4, 5, 6, 7, 8]])
 (.ret))), [.mov (.t 2), .load true 4 (.t 3), .mov (.t 4)]) := by kernel_rfl
theorem m_wdo_ok : compF Tryz.prog 14 = some (194, Qr ([Qw 2 (.box 37 (.t 0)), Qw 3 (.box 24 (.t 1)), Qw 4 (.alloc 37 (.agg [.nilS, .nilS, .nilS, .agg [.nilS, .nilS], .nilS])), Qw 5 (.alloc 54 (.agg [.agg [.int .u8 0, .int .u16 0, .int .i64 0, .int .i64 0], .nilS, .int .i64 0, .bool false])), Qp 6 (.mov (Qi 0))])
 (.seq (Qr ([QL 12 6 2, Qq 13 9 [(.t 12)], Qp 14 (.un .not (.t 13)), Qm 15 14, Q0 16 15 (.load true 8 (.t 3)), ⟨(some 17), (some (15, false)), (.call 47 [(.t 16)])⟩, Q0 18 15 (.un .not (.t 17)), Qt 19 15 18, Qm 20 19, Q0 21 20 (.fieldA 5 5 (.t 3)), Q0 22 20 (.load false 1 (.t 21)), ⟨(some 23), (some (20, false)), (.call 17 [(.t 22)])⟩, Q0 24 20 (.un .not (.t 23)), Qt 25 20 24])
 (.cond (.t 25) (Qr ([Qw 26 (.build none [.nilS, .nilS, .nilS, .agg [.nilS, .nilS], .nilS] []), Qw 27 (.build none [.agg [.int .u8 0, .int .u16 0, .int .i64 0, .int .i64 0], .nilS, .int .i64 0, .bool false] []), Qs 6 4 26, Qs 7 5 27, Qp 6 (.mov (Qi 1))])
 (.ret)) (.skip)))
 (.seq (Qr ([Qf 28 5 5 3, Ql 29 1 28, Qq 30 48 [(.t 29)], Qk 31 .eql 30 2, Qm 32 31, Q1 33 32 (.fieldA 6 6 (.t 3)), Q1 34 32 (.load false 1 (.t 33)), Q1 35 32 (.idxA 4 (.t 34) (Qi 2)), Q1 36 32 (.fieldA 1 1 (.t 35)), Q1 37 32 (.load false 1 (.t 36)), Q1 38 32 (.bin 0 .gtr (.t 37) (.c (.int .u16 16))), Qu 39 32 38])
 (.cond (.t 39) (Qr ([Qw 40 (.build none [.nilS, .nilS, .nilS, .agg [.nilS, .nilS], .nilS] []), Qw 41 (.build none [.agg [.int .u8 0, .int .u16 0, .int .i64 0, .int .i64 0], .nilS, .int .i64 0, .bool false] []), Qs 6 4 40, Qs 7 5 41, Qp 6 (.mov (Qi 1))])
 (.ret)) (.skip)))
 (Qr ([QL 42 6 2, Qq 43 49 [(.t 42)], Qw 7 (.alloc 37 (.agg [.nilS, .nilS, .nilS, .agg [.nilS, .nilS], .nilS])), Qs 6 7 43])
 (Qr ([Qq 44 50 [(Qi 0)], Qw 45 (.build none [.agg [.int .u8 0, .int .u16 0, .int .i64 0, .int .i64 0], .nilS, .int .i64 0, .bool false] [(0, (.t 44)), (2, (Qi (-1)))]), Qw 8 (.alloc 54 (.agg [.agg [.int .u8 0, .int .u16 0, .int .i64 0, .int .i64 0], .nilS, .int .i64 0, .bool false])), Qs 7 8 45])
 (Qr ([Qp 9 (.mov (Qi 0))])
 (Qr ([Qc 10 (.bool true)])
 (Qr ([Qp 46 (.mkf 51 [(.t 3)]), Qm 11 46])
 (.seq (Qr ([Qf 47 5 5 3, Ql 48 1 47])
 (.block 0 (Qr ([Qk 50 .eql 48 1, Qm 49 50])
 (.cond (.t 49) (.seq (.dreg [Qf 52 3 3 7, QL 53 2 52, Qm 54 11, ⟨(some 55), none, (.callv (.t 54) [(Qi 0)])⟩, Qf 56 7 7 3, Ql 57 1 56, Qq 58 52 [(.t 53), (.t 55), (.t 57)], Qm 51 58, Qe 59 51 0, Qe 60 51 1, Qe 61 51 2, Qf 62 3 3 7, Qs 2 62 59, Qm 9 60, Qm 10 61] [[], [0], [], [2], [], [4], [0, 1, 2, 3, 4, 5], [0, 1, 2, 3, 4, 5, 6], [0, 1, 2, 3, 4, 5, 6, 7], [0, 1, 2, 3, 4, 5, 6, 7], [0, 1, 2, 3, 4, 5, 6, 7], [0, 1, 2, 3, 4, 5, 6, 7, 8], [0, 1, 2, 3, 4, 5, 6, 7, 8, 11], [0, 1, 2, 3, 4, 5, 6, 7, 8, 9, 11, 12], [0, 1, 2, 3, 4, 5, 6, 7, 8, 9, 10, 11, 12, 13]])
 (.reg [Qm 63 9, Qq 64 50 [(.t 63)], Qf 65 0 0 8, Qs 4 65 64])) (Qr ([Qk 67 .eql 48 2, Qm 66 67])
 (.cond (.t 66) (.seq (.dreg [Qf 69 3 3 7, QL 70 2 69, Qm 71 11, ⟨(some 72), none, (.callv (.t 71) [(Qi 0)])⟩, Qm 73 11, ⟨(some 74), none, (.callv (.t 73) [(Qi 2)])⟩, Qq 75 53 [(.t 70), (.t 72), (.t 74)], Qm 68 75, Qe 76 68 0, Qe 77 68 1, Qe 78 68 2, Qf 79 3 3 7, Qs 2 79 76, Qf 80 4 1 8, Qs 1 80 77, Qm 10 78] [[], [0], [], [2], [], [2, 3, 4], [0, 1, 2, 3, 4, 5], [0, 1, 2, 3, 4, 5, 6], [0, 1, 2, 3, 4, 5, 6, 7], [0, 1, 2, 3, 4, 5, 6, 7], [0, 1, 2, 3, 4, 5, 6, 7], [0, 1, 2, 3, 4, 5, 6, 7, 8], [0, 1, 2, 3, 4, 5, 6, 7, 8, 11], [0, 1, 2, 3, 4, 5, 6, 7, 8, 9, 11, 12], [0, 1, 2, 3, 4, 5, 6, 7, 8, 9, 11, 12, 13], [0, 1, 2, 3, 4, 5, 6, 7, 8, 9, 10, 11, 12, 13, 14]])
 (.reg [Qf 81 4 1 8, Ql 82 1 81, Qn 83 82, Qq 84 50 [(.t 83)], Qf 85 0 0 8, Qs 4 85 84])) (Qr ([Qk 87 .eql 48 3, Qm 86 87])
 (.cond (.t 86) (.seq (.dreg [Qf 89 3 3 7, QL 90 2 89, Qm 91 11, ⟨(some 92), none, (.callv (.t 91) [(Qi 0)])⟩, Qm 93 11, ⟨(some 94), none, (.callv (.t 93) [(Qi 1)])⟩, Qq 95 54 [(.t 90), (.t 92), (.t 94)], Qm 88 95, Qe 96 88 0, Qe 97 88 1, Qf 98 3 3 7, Qs 2 98 96, Qm 9 97] [[], [0], [], [2], [], [2, 3, 4], [0, 1, 2, 3, 4, 5], [0, 1, 2, 3, 4, 5, 6], [0, 1, 2, 3, 4, 5, 6, 7], [0, 1, 2, 3, 4, 5, 6, 7], [0, 1, 2, 3, 4, 5, 6, 7, 8], [0, 1, 2, 3, 4, 5, 6, 7, 8, 10], [0, 1, 2, 3, 4, 5, 6, 7, 8, 9, 10, 11]])
 (Qr ([Qm 99 9, Qk 100 .geq 99 0, Qm 10 100])
 (.reg [Qm 101 9, Qp 102 (.conv .u16 (.t 101)), Qw 103 (.build none [.int .u8 0, .int .u16 0, .int .i64 0, .int .i64 0] [(0, (.c (.int .u8 2))), (1, (.t 102))]), Qf 104 0 0 8, Qs 4 104 103]))) (Qr ([Qk 106 .eql 48 4, Qm 105 106])
 (.cond (.t 105) (.dreg [Qf 108 3 3 7, QL 109 2 108, Qm 110 11, ⟨(some 111), none, (.callv (.t 110) [(Qi 0)])⟩, Qq 112 55 [(.t 109), (.t 111)], Qm 107 112, Qe 113 107 0, Qe 114 107 1, Qf 115 3 3 7, Qs 2 115 113, Qm 10 114] [[], [0], [], [2], [0, 1, 2, 3], [0, 1, 2, 3, 4], [0, 1, 2, 3, 4, 5], [0, 1, 2, 3, 4, 5], [0, 1, 2, 3, 4, 5, 6], [0, 1, 2, 3, 4, 5, 6, 8], [0, 1, 2, 3, 4, 5, 6, 7, 8, 9]]) (Qr ([Qk 117 .eql 48 5, Qm 116 117])
 (.cond (.t 116) (.dreg [Qf 119 3 3 7, QL 120 2 119, Qm 121 11, ⟨(some 122), none, (.callv (.t 121) [(Qi 0)])⟩, Qm 123 11, ⟨(some 124), none, (.callv (.t 123) [(Qi 1)])⟩, Qq 125 56 [(.t 120), (.t 122), (.t 124)], Qm 118 125, Qe 126 118 0, Qe 127 118 1, Qf 128 3 3 7, Qs 2 128 126, Qm 10 127] [[], [0], [], [2], [], [2, 3, 4], [0, 1, 2, 3, 4, 5], [0, 1, 2, 3, 4, 5, 6], [0, 1, 2, 3, 4, 5, 6, 7], [0, 1, 2, 3, 4, 5, 6, 7], [0, 1, 2, 3, 4, 5, 6, 7, 8], [0, 1, 2, 3, 4, 5, 6, 7, 8, 10], [0, 1, 2, 3, 4, 5, 6, 7, 8, 9, 10, 11]]) (Qr ([Qk 130 .eql 48 6, Qm 129 130])
 (.cond (.t 129) (.reg [Qf 132 0 0 7, Ql 133 1 132, Qq 134 57 [(.t 133)], Qm 131 134, Qe 135 131 0, Qe 136 131 1, Qe 137 131 2, Qf 138 0 0 7, Qs 1 138 135, Qf 139 0 0 8, Qs 4 139 136, Qm 10 137]) (Qr ([Qk 141 .eql 48 7, Qm 140 141])
 (.cond (.t 140) (.reg [Qf 143 1 1 7, Ql 144 1 143, Qq 145 57 [(.t 144)], Qm 142 145, Qe 146 142 0, Qe 147 142 1, Qe 148 142 2, Qf 149 1 1 7, Qs 1 149 146, Qf 150 0 0 8, Qs 4 150 147, Qm 10 148]) (Qr ([Qk 152 .eql 48 13, Qm 151 152])
 (.cond (.t 151) (.seq (.dreg [Qf 154 5 4 7, Ql 155 1 154, Qm 156 11, ⟨(some 157), none, (.callv (.t 156) [(Qi 0)])⟩, Qf 158 7 7 3, Ql 159 1 158, Qq 160 58 [(.t 155), (.t 157), (.t 159)], Qm 153 160, Qe 161 153 0, Qe 162 153 1, Qe 163 153 2, Qf 164 5 4 7, Qs 1 164 161, Qm 9 162, Qm 10 163] [[], [0], [], [2], [], [4], [0, 1, 2, 3, 4, 5], [0, 1, 2, 3, 4, 5, 6], [0, 1, 2, 3, 4, 5, 6, 7], [0, 1, 2, 3, 4, 5, 6, 7], [0, 1, 2, 3, 4, 5, 6, 7], [0, 1, 2, 3, 4, 5, 6, 7, 8], [0, 1, 2, 3, 4, 5, 6, 7, 8, 11], [0, 1, 2, 3, 4, 5, 6, 7, 8, 9, 11, 12], [0, 1, 2, 3, 4, 5, 6, 7, 8, 9, 10, 11, 12, 13]])
 (.reg [Qm 165 9, Qq 166 50 [(.t 165)], Qf 167 0 0 8, Qs 4 167 166])) (Qr ([Qk 169 .eql 48 14, Qm 168 169])
 (.cond (.t 168) (.seq (.dreg [Qf 171 2 2 7, Ql 172 1 171, Qm 173 11, ⟨(some 174), none, (.callv (.t 173) [(Qi 0)])⟩, Qm 175 11, ⟨(some 176), none, (.callv (.t 175) [(Qi 2)])⟩, Qq 177 59 [(.t 172), (.t 174), (.t 176)], Qm 170 177, Qe 178 170 0, Qe 179 170 1, Qe 180 170 2, Qf 181 2 2 7, Qs 1 181 178, Qf 182 4 1 8, Qs 1 182 179, Qm 10 180] [[], [0], [], [2], [], [2, 3, 4], [0, 1, 2, 3, 4, 5], [0, 1, 2, 3, 4, 5, 6], [0, 1, 2, 3, 4, 5, 6, 7], [0, 1, 2, 3, 4, 5, 6, 7], [0, 1, 2, 3, 4, 5, 6, 7], [0, 1, 2, 3, 4, 5, 6, 7, 8], [0, 1, 2, 3, 4, 5, 6, 7, 8, 11], [0, 1, 2, 3, 4, 5, 6, 7, 8, 9, 11, 12], [0, 1, 2, 3, 4, 5, 6, 7, 8, 9, 11, 12, 13], [0, 1, 2, 3, 4, 5, 6, 7, 8, 9, 10, 11, 12, 13, 14]])
 (.reg [Qf 183 4 1 8, Ql 184 1 183, Qn 185 184, Qq 186 50 [(.t 185)], Qf 187 0 0 8, Qs 4 187 186])) (.skip)))))))))))))))))))))
 (.seq (Qr ([Qm 188 10, Qp 189 (.un .not (.t 188))])
 (.cond (.t 189) (.reg [Qq 190 50 [(Qi 65535)], Qw 191 (.build none [.agg [.int .u8 0, .int .u16 0, .int .i64 0, .int .i64 0], .nilS, .int .i64 0, .bool false] [(0, (.t 190)), (2, (Qi (-1)))]), Qs 7 8 191]) (.skip)))
 (.seq (.dreg [QL 192 6 7, QL 193 7 8, Qs 6 4 192, Qs 7 5 193, Qp 6 (.mov (Qi 0))] [[], [], [0], [0, 1, 2], [0, 1, 2, 3]])
 (.ret))))))))))), [.load true 6 (.t 4), .load true 7 (.t 5), .mov (.t 6)]) := by kernel_rfl
abbrev resV (r : Rdn.Result) : V := .agg [canonV r.value, .sl false 4 (r.data.map canonV), .int .i64 r.spawn, .bool r.wait]
def okR (c : Canon) (d : List Canon) : Rdn.Result := ⟨c, d, -1, false⟩
def numR (v : Int) : Canon := ⟨0, IntKind.u16.wrap v, 0, 0⟩
def failR : Rdn.Result := okR ⟨0, 65535, 0, 0⟩ []
def noR : Rdn.Result := ⟨⟨0, 0, 0, 0⟩, [], 0, false⟩
def sFirst (l : List Int) : List Int × Canon × Bool := if l.length = 0 then (l, ⟨0, 0, 0, 0⟩, false) else (l.drop 1, ⟨0, l[0]!, 0, 0⟩, true)
theorem sFirst_T {l : List Int} (h : l.length = 0) : sFirst l = (l, ⟨0, 0, 0, 0⟩, false) := if_pos h
theorem sFirst_F {l : List Int} (h : ¬ l.length = 0) : sFirst l = (l.drop 1, ⟨0, l[0]!, 0, 0⟩, true) := if_neg h
attribute [local go_sem] take_mapW drop_mapW List.take_length
set_option maxHeartbeats 4000000 in
theorem wnumb_fn (v : Int) : Fnc Tryz.prog 50 [.int .i64 v] (fun x obs => x = canonV (numR v) ∧ obs = []) := by
  refine zgo m_wnumb_ok fun W S => ?_
  exact zrt m_wnumb_ok
set_option maxHeartbeats 4000000 in
theorem wfirst_fn (l : List Int) : Fnc Tryz.prog 57 [owV l] (fun x obs => x = .tup [owV (sFirst l).1, canonV (sFirst l).2.1, .bool (sFirst l).2.2] ∧ obs = []) := by
  refine Fnc.wf fun hw => ?_
  have hm : ∀ k, k < l.length → 0 ≤ l[k]! ∧ l[k]! ≤ 65535 := fun k hk => by
    have := hw.1
    simp only [V.wf, wfs_map] at this
    exact inK_u16' (this.1 _ (mem_at hk))
  simp only [V.wfs, V.wf, wfs_map, List.length_map] at hw
  have m1 := hw.1.2
  clear hw
  by_cases h : l.length = 0
  · rw [sFirst_T h]
    refine zgo m_wfirst_ok fun W S => ?_
    exact zrt m_wfirst_ok
  · rw [sFirst_F h]
    obtain ⟨h1, h2⟩ := hm 0 (by omega)
    have h0 : IntKind.u16.wrap l[0]! = l[0]! := wrapU16 h1 h2
    have h3 : IntKind.i64.wrap l[0]! = l[0]! := wrapI64 (by omega) (by omega)
    have fn := wnumb_fn l[0]!
    rw [show numR l[0]! = ⟨0, l[0]!, 0, 0⟩ by unfold numR; rw [h0]] at fn
    refine zgo m_wfirst_ok fun W S => ?_
    refine zsx h3 ?_
    refine zcd (fn) ?_
    exact zrt m_wfirst_ok
end Go.Proofs.YtkfpcgkmemfdaaaGreat
/- The outside: calls for the time. -/
namespace Go.Proofs.YtkfpcgkmemfdaaaGreat
open Go Go.RowKit Rdn Rdn.Dp
set_option linter.unusedVariables false
set_option linter.unusedSimpArgs false
theorem numR_0 : numR 0 = ⟨0, 0, 0, 0⟩ := rfl
theorem numR_f : numR 65535 = ⟨0, 65535, 0, 0⟩ := rfl
attribute [local irreducible] sFirst
set_option maxHeartbeats 16000000 in
theorem wdot_fn (o : Rdn.Outside) (q : Request) (F : FitO o) (A : asksB q = true) (c : q.call = 6) (ha : q.args.length ≤ 1000) : Fnc Tryz.prog 14 [outsV o, reqV q] (fun x obs => x = .tup [outsV ⟨(sFirst o.clock).1, o.random, o.inputs, o.files, o.outputs⟩, resV (if (sFirst o.clock).2.2 = true then okR (sFirst o.clock).2.1 [] else failR), .int .i64 0] ∧ obs = []) := by
  refine Fnc.low ?_
  have fv := woval_fn o
  rw [valO_T F] at fv
  have fa := wasks_fn q ha
  rw [A] at fa
  have fx := wact_fn q.call
  rw [show actB q.call = true by rw [c]; rfl] at fx
  have fb := wbuf_fn q.call (by omega) (by omega)
  rw [show bufS q.call = 0 by rw [c]; rfl] at fb
  have fc := wocpy_fn o F
  have fn := wnumb_fn 0
  rw [numR_0] at fn
  have fm := wnumb_fn 65535
  rw [numR_f] at fm
  have ff := wfirst_fn o.clock
  cases e : (sFirst o.clock).2.2 with
  | true =>
    rw [e] at ff
    rw [if_pos rfl]
    refine zgo m_wdo_ok fun W S => ?_
    refine zcd (fv) ?_
    refine zcd (fa) ?_
    refine zcd (fx) ?_
    refine zcd (fb) ?_
    refine zcd (fc) ?_
    refine zcd (fn) ?_
    refine zcd (ff) ?_
    refine ev_obSub 3 (.agg [_, .sl false 4 [], _, _]) rfl (SubV.agg ⟨SubV.refl _, SubV.nil _ _, SubV.refl _, SubV.refl _, trivial⟩) rfl ?_
    refine ret m_wdo_ok [] ?_; (first | (simp only [go_sem]; done) | (simp only [go_sem]; ((try dsimp only); (repeat' (refine And.intro ?_ ?_)) <;> first | with_reducible rfl | (simp only [go_sem]; done) | (simp only [go_sem]; rfl) | (simp only [go_sem, okR]; done) | (simp only [okR]; (try simp only [go_sem]); first | done | rfl) | (simp only [go_sem]; simp [okR]; done) | (simp [okR]; done) | rfl)))
  | false =>
    rw [e] at ff
    rw [if_neg (by decide)]
    refine zgo m_wdo_ok fun W S => ?_
    refine zcd (fv) ?_
    refine zcd (fa) ?_
    refine zcd (fx) ?_
    refine zcd (fb) ?_
    refine zcd (fc) ?_
    refine zcd (fn) ?_
    refine zcd (ff) ?_
    refine zcd (fm) ?_
    refine ev_obSub 3 (.agg [_, .sl false 4 [], _, _]) rfl (SubV.agg ⟨SubV.refl _, SubV.nil _ _, SubV.refl _, SubV.refl _, trivial⟩) rfl ?_
    refine ret m_wdo_ok [] ?_; (first | (simp only [go_sem]; done) | (simp only [go_sem]; ((try dsimp only); (repeat' (refine And.intro ?_ ?_)) <;> first | with_reducible rfl | (simp only [go_sem]; done) | (simp only [go_sem]; rfl) | (simp only [go_sem, okR failR]; done) | (simp only [okR failR]; (try simp only [go_sem]); first | done | rfl) | (simp only [go_sem]; simp [okR failR]; done) | (simp [okR failR]; done) | rfl)))
end Go.Proofs.YtkfpcgkmemfdaaaGreat
/- The outside: the example of the chapter. -/
namespace Go.Proofs.YtkfpcgkmemfdaaaGreat
open Go Go.RowKit Rdn Rdn.Dp
set_option linter.unusedVariables false
set_option linter.unusedSimpArgs false
theorem m_awake19_ok : compF Tryz.prog 4 = some (48, Qr ([Qc 0 (.bool false)])
 (Qr ([Qw 7 (.buildS 41 1 (.int .u16 0) 2 [(0, (.c (.int .u16 5))), (1, (.c (.int .u16 9)))]), Qq 8 19 [(.c (.nilS)), (.c (.nilS)), (.t 7), (.c (.nilS))], Qm 6 8, Qe 9 6 0, Qe 10 6 1, Qw 1 (.alloc 37 (.agg [.nilS, .nilS, .nilS, .agg [.nilS, .nilS], .nilS])), Qs 6 1 9, Qm 2 10])
 (Qr ([QL 12 6 1, Qw 13 (.build none [.int .i64 0, .int .i64 0, .int .i64 0, .int .i64 0, .int .i64 0, .int .i64 0, .nilS, .nilS] [(1, (Qi 1)), (5, (Qi 6))]), Qq 14 14 [(.t 12), (.t 13)], Qm 11 14, Qe 15 11 0, Qe 16 11 1, Qe 17 11 2, Qw 3 (.alloc 37 (.agg [.nilS, .nilS, .nilS, .agg [.nilS, .nilS], .nilS])), Qw 4 (.alloc 54 (.agg [.agg [.int .u8 0, .int .u16 0, .int .i64 0, .int .i64 0], .nilS, .int .i64 0, .bool false])), Qs 6 3 15, Qs 7 4 16, Qm 5 17])
 (Qr ([Qm 18 2, Qk 19 .eql 18 0, Qm 20 19, Q1 21 20 (.mov (.t 5)), Q1 22 20 (.bin 0 .eql (.t 21) (Qi 0)), Qu 23 20 22, Qm 24 23, Q1 25 24 (.fieldA 0 0 (.t 4)), Q1 26 24 (.fieldA 1 1 (.t 25)), Q1 27 24 (.load false 1 (.t 26)), Q1 28 24 (.bin 0 .eql (.t 27) (.c (.int .u16 5))), Qu 29 24 28, Qm 30 29, Q1 31 30 (.fieldA 5 2 (.t 4)), Q1 32 30 (.load false 1 (.t 31)), Q1 33 30 (.bin 0 .eql (.t 32) (Qi (-1))), Qu 34 30 33, Qm 35 34, Q1 36 35 (.fieldA 0 0 (.t 3)), Q1 37 35 (.load false 1 (.t 36)), Q1 38 35 (.len (.t 37)), Q1 39 35 (.bin 0 .eql (.t 38) (Qi 1)), Qu 40 35 39, Qm 41 40, ⟨(some 42), (some (41, true)), (.call 17 [(Qi 13)])⟩, Qu 43 41 42, Qm 44 43, ⟨(some 45), (some (44, true)), (.call 17 [(Qi 8)])⟩, Q1 46 44 (.un .not (.t 45)), Qu 47 44 46, Qm 0 47])
 (.ret)))), [.mov (.t 0)]) := by kernel_rfl
theorem fit_aw : FitO ⟨[5, 9], [], [], ⟨[].map numC, eight⟩, []⟩ := ⟨by decide, by decide, by decide, by simp, by
  refine new_fit (data := []) (.inl rfl), by decide, fun j hj => absurd hj (Nat.not_lt_zero j), by simp⟩
theorem aw_beg : sBegin [] [] [5, 9] [] = (⟨[5, 9], [], [], ⟨[].map numC, eight⟩, []⟩, 0) := sBegin_T (.inl rfl) (valO_T fit_aw)
def qT : Request := ⟨0, 1, 0, 0, 0, 6, [], []⟩
theorem asks_aw : asksB qT = true := by
  have h : valQ qT = true := valQ_T ⟨by decide, by decide, by decide, by decide, by decide, by decide, rfl, rfl⟩
  unfold asksB
  rw [h]
  rfl
theorem aw_first : sFirst [5, 9] = ([9], ⟨0, 5, 0, 0⟩, true) := rfl
attribute [local irreducible] sFirst sBegin eight
set_option maxHeartbeats 8000000 in
theorem awake19_fn : Fnc Tryz.prog 4 [] (fun x obs => x = .bool true ∧ obs = []) := by
  have f1 := wbeg_fn [] [] [5, 9] [] (by decide)
  rw [aw_beg] at f1
  have f2 := wdot_fn _ qT fit_aw asks_aw rfl (by decide)
  dsimp only at f2
  rw [aw_first] at f2
  rw [if_pos rfl] at f2
  have f3 := wact_fn 13
  have f4 := wact_fn 8
  rw [show actB 13 = true from rfl] at f3
  rw [show actB 8 = false from rfl] at f4
  refine zgo m_awake19_ok fun W S => ?_
  refine evr_calmA ?_; (refine zev ?_); (first | refine callD (f1) ?_ | refine callDw (f1) ?_); simp only [go_sem, slV', wssV, owV]
  refine zst ?_
  (first | refine callD (f2) ?_ | refine callDw (f2) ?_); simp only [go_sem, qT, wssV, owV, outsV, reqV, filV, resV, okR]
  refine zst ?_
  refine zcd (f3) ?_
  refine zcd (f4) ?_
  exact zrt m_awake19_ok
end Go.Proofs.YtkfpcgkmemfdaaaGreat
