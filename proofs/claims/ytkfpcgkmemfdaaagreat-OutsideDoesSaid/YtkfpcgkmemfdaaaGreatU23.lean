/- The outside: the law OutsideDoes. -/
import Derived.Test.YtkfpcgkmemfdaaaGreatU21
import Derived.Test.YtkfpcgkmemfdaaaGreatC5
import Derived.Test.YtkfpcgkmemfdaaaGreatU22
import Derived.Test.YtkfpcgkmemfdaaaGreatUB
import Derived.Test.YtkfpcgkmemfdaaaGreatReads
namespace Go.Proofs.YtkfpcgkmemfdaaaGreat
open Go Go.RowKit Rdn Rdn.Dp
set_option linter.unusedVariables false
set_option linter.unusedSimpArgs false
theorem m_odoes_ok : compF Tryz.prog 3 = some (172, Qr ([Qw 4 (.box 24 (.t 0)), Qc 8 (.bool false)])
 (.seq (Qr ([Qf 22 6 6 4, Ql 23 1 22, Qn 24 23, Qk 25 .gtr 24 30, Qm 26 25, Q0 27 26 (.fieldA 7 7 (.t 4)), Q0 28 26 (.load false 1 (.t 27)), Q0 29 26 (.len (.t 28)), Q0 30 26 (.bin 0 .gtr (.t 29) (Qi 60)), Qt 31 26 30])
 (.cond (.t 31) (Qr ([Qq 32 4 [], Qm 8 32])
 (.ret)) (.skip)))
 (Qr ([Qm 33 1, Qq 34 5 [(.t 33)], Qm 9 34])
 (Qr ([Qm 35 9, Qq 36 6 [(.t 35)], Qw 10 (.alloc 37 (.agg [.nilS, .nilS, .nilS, .agg [.nilS, .nilS], .nilS])), Qs 6 10 36])
 (Qr ([QL 37 6 10, Qq 38 7 [(.t 37)], Qw 11 (.alloc 37 (.agg [.nilS, .nilS, .nilS, .agg [.nilS, .nilS], .nilS])), Qs 6 11 38])
 (.seq (Qr ([Qm 39 2, Qq 40 8 [(.t 39), (Qi 4)]])
 (.block 0 (Qr ([Qk 42 .eql 40 0, Qm 41 42])
 (.cond (.t 41) (.reg [Qm 43 3, Qq 44 8 [(.t 43), (Qi 3)], Qp 45 (.bin 0 .add (Qi 63) (.t 44)), Qw 46 (.mkS 41 1 2 (.int .u16 0) (.t 45) (.t 45)), Qf 47 0 0 11, Qs 1 47 46]) (Qr ([Qk 49 .eql 40 1, Qm 48 49])
 (.cond (.t 48) (.reg [Qf 50 2 2 11, Ql 51 1 50, Qw 52 (.buildS 29 1 (.nilS) 1 [(0, (.c (.nilS)))]), Qw 53 (.app 29 1 24 (.t 51) (.t 52)), Qf 54 2 2 11, Qs 1 54 53]) (Qr ([Qk 56 .eql 40 2, Qm 55 56])
 (.cond (.t 55) (.dreg [Qf 57 5 4 11, Ql 58 1 57, Qf 59 5 4 11, Ql 60 1 59, Qn 61 60, Qm 62 3, Qq 63 8 [(.t 62), (Qi 2)], Qb 64 .add 61 63, Qm 65 3, Qq 66 8 [(.t 65), (Qi 4)], Qp 67 (.conv .u8 (.t 66)), Qw 68 (.build none [.int .u8 0, .int .u16 0, .int .i64 0, .int .i64 0] [(0, (.t 67))]), Qw 69 (.buildS 43 4 (.agg [.int .u8 0, .int .u16 0, .int .i64 0, .int .i64 0]) 1 [(0, (.t 68))]), Qw 70 (.build none [.int .i64 0, .int .i64 0, .nilS] [(0, (.t 64)), (2, (.t 69))]), Qw 71 (.buildS 45 3 (.agg [.int .i64 0, .int .i64 0, .nilS]) 1 [(0, (.t 70))]), Qw 72 (.app 45 3 40 (.t 58) (.t 71)), Qf 73 5 4 11, Qs 1 73 72] [[], [0], [], [2], [2, 3], [], [5], [2, 3, 4, 5, 6], [], [5, 6, 8], [5, 6, 8, 9], [5, 6, 8, 9, 10], [5, 6, 8, 9, 10, 11], [2, 3, 4, 5, 6, 7, 8, 9, 10, 11, 12], [2, 3, 4, 5, 6, 7, 8, 9, 10, 11, 12, 13], [0, 1, 2, 3, 4, 5, 6, 7, 8, 9, 10, 11, 12, 13, 14], [0, 1, 2, 3, 4, 5, 6, 7, 8, 9, 10, 11, 12, 13, 14, 15], [0, 1, 2, 3, 4, 5, 6, 7, 8, 9, 10, 11, 12, 13, 14, 15, 16]]) (Qr ([Qk 75 .eql 40 3, Qm 74 75])
 (.cond (.t 74) (.dreg [Qf 76 3 3 11, Qf 77 1 1 76, Ql 78 1 77, Qm 79 3, Qq 80 8 [(.t 79), (Qi 8)], Qx 81 3 78 80, Qf 82 1 1 81, Ql 83 1 82, Qm 84 3, Qq 85 8 [(.t 84), (Qi 3)], Qb 86 .add 83 85, Qx 87 3 78 80, Qf 88 1 1 87, Qs 1 88 86] [[], [0], [0, 1], [], [3], [0, 1, 2, 3, 4], [0, 1, 2, 3, 4, 5], [0, 1, 2, 3, 4, 5, 6], [], [3, 4, 8], [0, 1, 2, 3, 4, 5, 6, 7, 8, 9], [0, 1, 2, 3, 4, 5, 6, 7, 8, 9, 10], [0, 1, 2, 3, 4, 5, 6, 7, 8, 9, 10, 11], [0, 1, 2, 3, 4, 5, 6, 7, 8, 9, 10, 11, 12]]) (.skip)))))))))))
 (.seq (.seq (.dreg [QL 89 6 10, Qq 90 9 [(.t 89)], QL 91 6 10, Qq 92 10 [(.t 91)], Qp 93 (.bin 1 .neq (.t 90) (.t 92)), Qm 94 93, Q0 95 94 (.load true 6 (.t 11)), ⟨(some 96), (some (94, false)), (.call 9 [(.t 95)])⟩, Q0 97 94 (.load true 6 (.t 11)), ⟨(some 98), (some (94, false)), (.call 10 [(.t 97)])⟩, Q0 99 94 (.bin 1 .neq (.t 96) (.t 98)), Qt 100 94 99, Qm 101 100, Q0 102 101 (.load true 6 (.t 10)), Q0 103 101 (.load true 6 (.t 11)), ⟨(some 104), (some (101, false)), (.call 11 [(.t 102), (.t 103)])⟩, Q0 105 101 (.load true 6 (.t 10)), Q0 106 101 (.load true 6 (.t 11)), ⟨(some 107), (some (101, false)), (.call 12 [(.t 105), (.t 106)])⟩, Q0 108 101 (.bin 1 .neq (.t 104) (.t 107)), Qt 109 101 108] [[], [0], [], [0, 1, 2], [0, 1, 2, 3], [0, 1, 2, 3, 4], [0, 1, 2, 3, 4, 5], [0, 1, 2, 3, 4, 5, 6], [0, 1, 2, 3, 4, 5], [0, 1, 2, 3, 4, 5, 6, 7, 8], [0, 1, 2, 3, 4, 5, 6, 7, 8, 9], [0, 1, 2, 3, 4, 5, 6, 7, 8, 9, 10], [0, 1, 2, 3, 4, 5, 6, 7, 8, 9, 10, 11], [0, 1, 2, 3, 4, 5, 6, 7, 8, 9, 10, 11, 12], [0, 1, 2, 3, 4, 5, 6, 7, 8, 9, 10, 11, 12], [0, 1, 2, 3, 4, 5, 6, 7, 8, 9, 10, 11, 12, 13, 14], [0, 1, 2, 3, 4, 5, 6, 7, 8, 9, 10, 11, 12], [0, 1, 2, 3, 4, 5, 6, 7, 8, 9, 10, 11, 12], [0, 1, 2, 3, 4, 5, 6, 7, 8, 9, 10, 11, 12, 13, 14, 15, 16, 17], [0, 1, 2, 3, 4, 5, 6, 7, 8, 9, 10, 11, 12, 13, 14, 15, 16, 17, 18], [0, 1, 2, 3, 4, 5, 6, 7, 8, 9, 10, 11, 12, 13, 14, 15, 16, 17, 18, 19]])
 (.cond (.t 109) (Qr ([Qc 8 (.bool false)])
 (.ret)) (.skip)))
 (.seq (Qr ([QL 110 6 10, QL 111 6 11, Qw 112 (.buildS 37 6 (.agg [.nilS, .nilS, .nilS, .agg [.nilS, .nilS], .nilS]) 2 [(0, (.t 110)), (1, (.t 111))]), Qn 113 112, Qp 114 (.mov (Qi 0))])
 (.block 1 (.loop (Qr ([Qb 115 .lss 114 113])
 (.seq (.cond (.t 115) (.skip) (.exit 1))
 (.seq (.block 2 (Qr ([Qx 116 6 112 114, QL 117 6 116, Qw 13 (.alloc 37 (.agg [.nilS, .nilS, .nilS, .agg [.nilS, .nilS], .nilS])), Qs 6 13 117])
 (.seq (.dreg [QL 118 8 4, Qm 119 9, Qq 120 13 [(.t 119)], Qm 121 9, Qq 122 13 [(.t 121)], Qm 123 9, Qq 124 13 [(.t 123)], Qw 125 (.buildS 24 8 (.agg [.int .i64 0, .int .i64 0, .int .i64 0, .int .i64 0, .int .i64 0, .int .i64 0, .nilS, .nilS]) 4 [(0, (.t 118)), (1, (.t 120)), (2, (.t 122)), (3, (.t 124))]), Qn 126 125, Qp 127 (.mov (Qi 0))] [[], [], [1], [], [1, 2, 3], [], [1, 2, 3, 4, 5], [0, 1, 2, 3, 4, 5, 6], [0, 1, 2, 3, 4, 5, 6, 7], []])
 (.block 3 (.loop (Qr ([Qb 128 .lss 127 126])
 (.seq (.cond (.t 128) (.skip) (.exit 3))
 (.seq (.block 4 (Qr ([Qx 129 8 125 127, QL 130 8 129, Qw 15 (.alloc 24 (.agg [.int .i64 0, .int .i64 0, .int .i64 0, .int .i64 0, .int .i64 0, .int .i64 0, .nilS, .nilS])), Qs 8 15 130])
 (Qr ([QL 132 6 13, QL 133 8 15, Qq 134 14 [(.t 132), (.t 133)], Qm 131 134, Qe 135 131 0, Qe 136 131 1, Qe 137 131 2, Qw 16 (.alloc 37 (.agg [.nilS, .nilS, .nilS, .agg [.nilS, .nilS], .nilS])), Qw 17 (.alloc 54 (.agg [.agg [.int .u8 0, .int .u16 0, .int .i64 0, .int .i64 0], .nilS, .int .i64 0, .bool false])), Qs 6 16 135, Qs 7 17 136, Qm 18 137])
 (Qr ([QL 139 6 13, QL 140 8 15, Qq 141 15 [(.t 139), (.t 140)], Qm 138 141, Qe 142 138 0, Qe 143 138 1, Qe 144 138 2, Qw 19 (.alloc 37 (.agg [.nilS, .nilS, .nilS, .agg [.nilS, .nilS], .nilS])), Qw 20 (.alloc 54 (.agg [.agg [.int .u8 0, .int .u16 0, .int .i64 0, .int .i64 0], .nilS, .int .i64 0, .bool false])), Qs 6 19 142, Qs 7 20 143, Qm 21 144])
 (.seq (.dreg [Qm 145 18, Qm 146 21, Qb 147 .neq 145 146, Qm 148 147, Q0 149 148 (.load true 7 (.t 17)), Q0 150 148 (.load true 7 (.t 20)), ⟨(some 151), (some (148, false)), (.call 16 [(.t 149), (.t 150)])⟩, Q0 152 148 (.un .not (.t 151)), Qt 153 148 152, Qm 154 153, Q0 155 154 (.load true 6 (.t 16)), Q0 156 154 (.load true 6 (.t 19)), ⟨(some 157), (some (154, false)), (.call 12 [(.t 155), (.t 156)])⟩, Q0 158 154 (.un .not (.t 157)), Qt 159 154 158, Qm 160 159, Q0 161 160 (.fieldA 5 5 (.t 15)), Q0 162 160 (.load false 1 (.t 161)), ⟨(some 163), (some (160, false)), (.call 17 [(.t 162)])⟩, Q0 164 160 (.fieldA 5 5 (.t 15)), Q0 165 160 (.load false 1 (.t 164)), ⟨(some 166), (some (160, false)), (.call 18 [(.t 165)])⟩, Q0 167 160 (.bin 1 .neq (.t 163) (.t 166)), Qt 168 160 167] [[], [], [0, 1], [0, 1, 2], [0, 1, 2, 3], [0, 1, 2, 3], [0, 1, 2, 3, 4, 5], [0, 1, 2, 3, 4, 5, 6], [0, 1, 2, 3, 4, 5, 6, 7], [0, 1, 2, 3, 4, 5, 6, 7, 8], [0, 1, 2, 3, 4, 5, 6, 7, 8, 9], [0, 1, 2, 3, 4, 5, 6, 7, 8, 9], [0, 1, 2, 3, 4, 5, 6, 7, 8, 9, 10, 11], [0, 1, 2, 3, 4, 5, 6, 7, 8, 9, 10, 11, 12], [0, 1, 2, 3, 4, 5, 6, 7, 8, 9, 10, 11, 12, 13], [0, 1, 2, 3, 4, 5, 6, 7, 8, 9, 10, 11, 12, 13, 14], [0, 1, 2, 3, 4, 5, 6, 7, 8, 9, 10, 11, 12, 13, 14, 15], [0, 1, 2, 3, 4, 5, 6, 7, 8, 9, 10, 11, 12, 13, 14, 15, 16], [0, 1, 2, 3, 4, 5, 6, 7, 8, 9, 10, 11, 12, 13, 14, 15, 16, 17], [0, 1, 2, 3, 4, 5, 6, 7, 8, 9, 10, 11, 12, 13, 14, 15], [0, 1, 2, 3, 4, 5, 6, 7, 8, 9, 10, 11, 12, 13, 14, 15, 19], [0, 1, 2, 3, 4, 5, 6, 7, 8, 9, 10, 11, 12, 13, 14, 15, 16, 17, 18, 19, 20], [0, 1, 2, 3, 4, 5, 6, 7, 8, 9, 10, 11, 12, 13, 14, 15, 16, 17, 18, 19, 20, 21], [0, 1, 2, 3, 4, 5, 6, 7, 8, 9, 10, 11, 12, 13, 14, 15, 16, 17, 18, 19, 20, 21, 22]])
 (.cond (.t 168) (Qr ([Qc 8 (.bool false)])
 (.ret)) (.skip)))))))
 (.reg [Qk 169 .add 127 1, Qm 127 169])))))))))
 (.reg [Qk 170 .add 114 1, Qm 114 170])))))))
 (Qr ([Qq 171 4 [], Qm 8 171])
 (.ret))))))))), [.mov (.t 8)]) := by kernel_rfl
theorem enc_request : Enc Request.sh (fun q => .agg [.int .i64 q.thread, .int .i64 q.stop, .int .i64 q.trap, .int .i64 q.count, .int .i64 q.pc, .int .i64 q.call, .sl false 4 (q.args.map canonV), .sl false 4 (q.data.map canonV)]) := Enc.struct (EncL.cons (Enc.int _) (EncL.cons (Enc.int _) (EncL.cons (Enc.int _) (EncL.cons (Enc.int _) (EncL.cons (Enc.int _) (EncL.cons (Enc.int _) (EncL.cons enc_canons (EncL.cons enc_canons EncL.unit)))))))) _
theorem rd_Request : Reads Tryz.prog 24 Request.sh :=
  Reads.via (Reads.struct Tryz.underlying24 (by kernel_rfl) (Row.cons rfl rd_int (Row.cons rfl rd_int (Row.cons rfl rd_int (Row.cons rfl rd_int (Row.cons rfl rd_int (Row.cons rfl rd_int (Row.cons rfl rd_Canons (Row.cons rfl rd_Canons (Row.nil _ _)))))))))) (fun a => ⟨⟨a.1, a.2.1, a.2.2.1, a.2.2.2.1, a.2.2.2.2.1, a.2.2.2.2.2.1, a.2.2.2.2.2.2.1, a.2.2.2.2.2.2.2.1⟩, rfl⟩)
attribute [local irreducible] sDo rq usd
theorem snoc_wsV (l : List (List Int)) (r : List V) : l.map (slV' false 1 (V.int .u16)) ++ (V.nilS :: r) = l.map (slV' false 1 (V.int .u16)) ++ (V.nilS :: r) := rfl
instance : Inhabited Rdn.Outside := ⟨noO⟩
instance : Inhabited Request := ⟨⟨0, 0, 0, 0, 0, 0, [], []⟩⟩
theorem mod4 (w : Int) : w % 4 = 0 ∨ w % 4 = 1 ∨ w % 4 = 2 ∨ w % 4 = 3 := by omega
theorem subVs_snoc {x y : V} (h : SubV x y) : ∀ l : List V, SubVs (l ++ [x]) (l ++ [y])
  | [] => ⟨h, trivial⟩
  | a :: l => ⟨SubV.refl a, subVs_snoc h l⟩
theorem sub_inp (t : Bool) (l : List (List Int)) : SubV (.sl t 1 (l.map (slV' false 1 (V.int .u16)) ++ [V.nilS])) (.sl false 1 ((l ++ [[]]).map (slV' false 1 (V.int .u16)))) := by
  rw [List.map_append]
  refine subV_sl (subVs_snoc (SubV.nil false 1) _) ?_ ?_
  · rw [← List.map_append]; exact pures_lo _ _
  · rw [← List.map_append]
    exact fun y hy => by obtain ⟨_, _, rfl⟩ := List.mem_map.1 hy; rfl
theorem sub_out (t : Bool) (l : List Output) (a b : Int) (c : List Canon) : SubV (.sl t 3 (l.map (outputV false) ++ [V.agg [.int .i64 a, .int .i64 b, .sl true 4 (c.map canonV)]])) (.sl false 3 ((l ++ [(⟨a, b, c⟩ : Output)]).map (outputV false))) := by
  rw [List.map_append]
  refine subV_sl (subVs_snoc (SubV.agg (show SubVs [.int .i64 a, .int .i64 b, .sl true 4 (c.map canonV)] [.int .i64 a, .int .i64 b, .sl false 4 (c.map canonV)] from ⟨SubV.refl _, SubV.refl _, subV_flag _ _ _, trivial⟩)) _) ?_ ?_
  · rw [← List.map_append]; exact pures_lo _ _
  · rw [← List.map_append]
    exact fun y hy => by obtain ⟨_, _, rfl⟩ := List.mem_map.1 hy; rfl
set_option maxHeartbeats 64000000 in
theorem odoes_fn (rq0 : Request) (l : List Int) (w by' : Int) : Fnc Tryz.prog 3 [reqV rq0, .sl false 1 (i64s l), .int .i64 w, .int .i64 by'] (fun x obs => x = .bool true) := by
  refine Fnc.wf fun hw => ?_
  simp only [V.wfs, V.wf, wfs_map, List.length_map] at hw
  have m1 := hw.1.2.2.2.2.2.2.1.2
  have m2 := hw.1.2.2.2.2.2.2.2.1.2
  clear hw
  have fa := awake19_fn
  by_cases c1 : rq0.args.length ≤ 30
  rotate_left
  · skip
    refine zgo m_odoes_ok fun W S => ?_
    refine zcd (fa) ?_
    exact zrt m_odoes_ok
  by_cases c2 : rq0.data.length ≤ 60
  rotate_left
  · skip
    refine zgo m_odoes_ok fun W S => ?_
    refine zcd (fa) ?_
    exact zrt m_odoes_ok
  have fu := used_fn l 0 (by omega)
  obtain ⟨hF, hk⟩ := usd_fit (l := l) (k := 0) (by omega)
  generalize usd l 0 = P at fu hF hk
  obtain ⟨o, k⟩ := P
  dsimp only at fu hF hk
  have fm := mmod_fn w 4 (by omega)
  refine zgo m_odoes_ok fun W S => ?_
  refine zcx (new_fn l) ?_
  refine Rdn.Dp.zcn (fu) ?_
  repeat (first | refine evr_nil ?_ | refine ev_seq ?_)
  refine ev_cutK2 [4, 8, 9, 10] (fun _ : Nat × Nat × Nat × List V × Rdn.Outside => [(11, .ptr 4 0 [] 0)]) (fun p => [⟨.box false 24, true, 0, reqV rq0⟩, ⟨.box false 64, true, 0, deckV l k⟩, ⟨.box false 37, true, 0, outsV o⟩, ⟨.row p.1, false, p.2.1, .arr p.2.2.1 p.2.2.2.1⟩, ⟨.box false 37, true, 0, outsV p.2.2.2.2⟩]) rfl ?_ ?_
  rotate_left
  · intro J hJ
    rcases mod4 w with c | c | c | c <;> rw [c] at fm
    · have f3 := mmod_fn by' 3 (by omega)
      have b3 := Int.emod_nonneg by' (show (3 : Int) ≠ 0 by decide)
      have b4 := Int.emod_lt_of_pos by' (show (0 : Int) < 3 by decide)
      generalize by' % 3 = b at f3 b3 b4
      refine zst ?_
      refine zcx (rocpI_fn o hF) ?_
      refine zcd (fm) ?_
      refine zcd (f3) ?_
      have hr : List.replicate (63 + b).toNat (V.int .u16 0) = u16s (List.replicate (63 + b).toNat 0) := by show _ = List.map _ _; rw [List.map_replicate]
      refine ev_frzBox 4 0 5 rfl rfl rfl ?_
      refine ev_frzBox 4 2 3 rfl rfl rfl ?_
      simp only [go_sem]
      rw [hr]
      refine ev_obSub 4 (.agg [.sl false 1 (u16s (List.replicate (63 + b).toNat 0)), _, .sl false 1 _, _, _]) rfl (SubV.agg ⟨subV_flag _ _ _, SubV.refl _, subV_flag _ _ _, SubV.refl _, SubV.refl _, trivial⟩) rfl ?_
      refine ev_next 5 (hJ _ (⟨29, 0, 1, o.inputs.map (slV' false 1 (V.int .u16)), ⟨List.replicate (63 + b).toNat 0, o.random, o.inputs, o.files, o.outputs⟩⟩) (by omega)) rfl (by simp) ?_ (by first | rfl | (simp only [go_sem]; done)) (by first | rfl | (simp only [go_sem]; done)) ?_
      · (first | rfl | (simp only [go_sem]; done) | (simp []; done))
      · simp only [go_sem]
    · have h3 := hF.i
      refine zst ?_
      refine zcx (rocpI_fn o hF) ?_
      refine zcd (fm) ?_
      refine ev_frzBox 4 2 3 rfl rfl rfl ?_
      simp only [go_sem]
      refine ev_obSub 4 (.agg [_, _, .sl false 1 ((o.inputs ++ [[]]).map (slV' false 1 (V.int .u16))), _, _]) rfl (SubV.agg ⟨SubV.refl _, SubV.refl _, sub_inp _ _, SubV.refl _, SubV.refl _, trivial⟩) rfl ?_
      refine ev_next 5 (hJ _ (⟨29, 1, 1, o.inputs.map (slV' false 1 (V.int .u16)) ++ [V.nilS], ⟨o.clock, o.random, o.inputs ++ [[]], o.files, o.outputs⟩⟩) (by omega)) rfl (by simp) ?_ (by first | rfl | (simp only [go_sem]; done)) (by first | rfl | (simp only [go_sem]; done)) ?_
      · (first | rfl | (simp only [go_sem]; done) | (simp []; done))
      · simp only [go_sem]
    · have h4 := hF.n
      have f2 := mmod_fn by' 2 (by omega)
      have f4 := mmod_fn by' 4 (by omega)
      have b3 := Int.emod_nonneg by' (show (2 : Int) ≠ 0 by decide)
      have b4 := Int.emod_lt_of_pos by' (show (0 : Int) < 2 by decide)
      have b5 := Int.emod_nonneg by' (show (4 : Int) ≠ 0 by decide)
      have b6 := Int.emod_lt_of_pos by' (show (0 : Int) < 4 by decide)
      generalize by' % 2 = b at f2 b3 b4
      generalize by' % 4 = d at f4 b5 b6
      refine zst ?_
      refine zcx (rocpO_fn o hF) ?_
      refine zcd (fm) ?_
      refine zcd (f2) ?_
      refine zcd (f4) ?_
      refine ev_frzBox 4 4 3 rfl rfl rfl ?_
      simp only [go_sem]
      refine ev_obSub 4 (.agg [_, _, _, _, .sl false 3 ((o.outputs ++ [(⟨o.outputs.length + b, 0, [⟨d, 0, 0, 0⟩]⟩ : Output)]).map (outputV false))]) rfl (SubV.agg ⟨SubV.refl _, SubV.refl _, SubV.refl _, SubV.refl _, sub_out true o.outputs (o.outputs.length + b) 0 [⟨d, 0, 0, 0⟩], trivial⟩) rfl ?_
      refine ev_next 5 (hJ _ (⟨45, 1, 3, o.outputs.map (outputV false) ++ [V.agg [.int .i64 (o.outputs.length + b), .int .i64 0, .sl true 4 ([(⟨d, 0, 0, 0⟩ : Canon)].map canonV)]], ⟨o.clock, o.random, o.inputs, o.files, o.outputs ++ [⟨o.outputs.length + b, 0, [⟨d, 0, 0, 0⟩]⟩]⟩⟩) (by omega)) rfl (by simp) ?_ (by first | rfl | (simp only [go_sem]; done)) (by first | rfl | (simp only [go_sem]; done)) ?_
      · (first | rfl | (simp only [go_sem]; done) | (simp []; done))
      · simp only [go_sem]
    · have f8 := mmod_fn by' 8 (by omega)
      have f3 := mmod_fn by' 3 (by omega)
      have b3 := Int.emod_nonneg by' (show (3 : Int) ≠ 0 by decide)
      have b4 := Int.emod_lt_of_pos by' (show (0 : Int) < 3 by decide)
      have b5 := Int.emod_nonneg by' (show (8 : Int) ≠ 0 by decide)
      have b6 := Int.emod_lt_of_pos by' (show (0 : Int) < 8 by decide)
      generalize by' % 3 = b at f3 b3 b4
      generalize by' % 8 = d at f8 b5 b6
      have ho8 := hF.f.o
      refine zst ?_
      refine zcx (rocpF_fn o hF) ?_
      refine zcd (fm) ?_
      refine zcd (f8) ?_
      refine zcd (f3) ?_
      refine ev_frzBox2 4 3 1 3 rfl rfl rfl rfl ?_
      simp only [go_sem]
      refine ev_obSub 4 (.agg [_, _, _, .agg [_, .sl false 3 ((o.files.opens.set d.toNat (⟨o.files.opens[d.toNat]!.file, IntKind.i64.wrap (o.files.opens[d.toNat]!.offset + b), o.files.opens[d.toNat]!.write⟩ : Opn)).map opnV)], _]) rfl (SubV.agg ⟨SubV.refl _, SubV.refl _, SubV.refl _, SubV.agg ⟨SubV.refl _, subV_flag _ _ _, trivial⟩, SubV.refl _, trivial⟩) rfl ?_
      refine ev_next 5 (hJ _ (⟨47, 0, 3, (o.files.opens.set d.toNat (⟨o.files.opens[d.toNat]!.file, IntKind.i64.wrap (o.files.opens[d.toNat]!.offset + b), o.files.opens[d.toNat]!.write⟩ : Opn)).map opnV, ⟨o.clock, o.random, o.inputs, ⟨o.files.data, o.files.opens.set d.toNat (⟨o.files.opens[d.toNat]!.file, IntKind.i64.wrap (o.files.opens[d.toNat]!.offset + b), o.files.opens[d.toNat]!.write⟩ : Opn)⟩, o.outputs⟩⟩) (by omega)) rfl (by simp) ?_ (by first | rfl | (simp only [go_sem]; done)) (by first | rfl | (simp only [go_sem]; done)) ?_
      · (first | rfl | (simp only [go_sem]; done) | (simp []; done))
      · simp only [go_sem]
  · rintro ⟨e3, g3, s3, q3, bd⟩
    dsimp only
    have fvw := woval_fn o
    have fvr := roval_fn o
    have fb1 := woval_fn bd
    have fb2 := roval_fn bd
    have fs1 := wsao_fn o bd
    have fs2 := rsao_fn o bd
    have x1 : (valO o != valO o) = false := by simp
    have x2 : (valO bd != valO bd) = false := by simp
    have x3 : (eqB o bd != eqB o bd) = false := by simp
    refine zst ?_
    refine zcd (fvw) ?_
    (first | refine callD (fvr) ?_ | refine callDw (fvr) ?_); refine zev ?_
    refine zsx x1 ?_
    refine zcd (fb1) ?_
    (first | refine callD (fb2) ?_ | refine callDw (fb2) ?_); refine zev ?_
    refine zsx x2 ?_
    refine zcd (fs1) ?_
    (first | refine callD (fs2) ?_ | refine callDw (fs2) ?_); refine zev ?_
    refine zsx x3 ?_
    refine ev_freeze 112 rfl rfl ?_
    obtain ⟨xs, hxs⟩ : ∃ xs, [o, bd] = xs := ⟨_, rfl⟩
    have hmap : [outsV o, outsV bd] = xs.map outsV := by rw [← hxs]; rfl
    have hxl : xs.length = 2 := by rw [← hxs]; rfl
    rw [hmap]
    clear hmap hxs fvw fvr fb1 fb2 fs1 fs2 x1 x2 x3
    refine ev_loopK [4, 9, 112, 113] (fun p : {p : Nat × Nat // p.1 ≤ 2 ∧ p.2 ≤ l.length} => [(114, .int .i64 p.1.1)]) (fun p => [⟨.box false 24, true, 0, reqV rq0⟩, ⟨.box false 64, true, 0, deckV l p.1.2⟩]) (fun p => 2 - p.1.1) (⟨(0, k), by simp, hk⟩) 2 (by simp only [go_sem]; rfl) ?_ (by first | rfl | (simp only [go_sem]; done)) (by simp) (by first | rfl | (simp only [go_sem]; done)) (by first | rfl | (simp only [go_sem]; done)) (by first | rfl | (simp only [go_sem]; done)) ?_
    · (simp only [go_sem]; (try simp []); done)
    intro J hJ
    rintro ⟨⟨i, k0⟩, hi, hk0⟩
    dsimp only at hi hk0 ⊢
    by_cases hlt : i < 2
    · have f1 := req_fn l k0 hk0
      have n1 := rq_len (l := l) (k := k0)
      have hk1 := rq_le (l := l) hk0
      generalize rq l k0 = Q1 at f1 n1 hk1
      have f2 := req_fn l Q1.2 hk1
      have n2 := rq_len (l := l) (k := Q1.2)
      have hk2 := rq_le (l := l) hk1
      generalize rq l Q1.2 = Q2 at f2 n2 hk2
      have f3 := req_fn l Q2.2 hk2
      have n3 := rq_len (l := l) (k := Q2.2)
      have hk3 := rq_le (l := l) hk2
      generalize rq l Q2.2 = Q3 at f3 n3 hk3
      obtain ⟨qs, hqs⟩ : ∃ qs, [rq0, Q1.1, Q2.1, Q3.1] = qs := ⟨_, rfl⟩
      have hqm : [reqV rq0, reqV Q1.1, reqV Q2.1, reqV Q3.1] = qs.map reqV := by rw [← hqs]; rfl
      have hql : qs.length = 4 := by rw [← hqs]; rfl
      have hqa : ∀ j, j < 4 → qs[j]!.args.length ≤ 1000 := by
        intro j hj
        have : j = 0 ∨ j = 1 ∨ j = 2 ∨ j = 3 := by omega
        rcases this with rfl | rfl | rfl | rfl <;> rw [← hqs]
        · show rq0.args.length ≤ 1000; omega
        · show Q1.1.args.length ≤ 1000; omega
        · show Q2.1.args.length ≤ 1000; omega
        · show Q3.1.args.length ≤ 1000; omega
      refine zst ?_
      refine zcm (f1) ?_
      refine zcm (f2) ?_
      refine Rdn.Dp.zcn (f3) ?_
      refine zsx (And.intro hqm (hql)) ?_
      have hJ0 := hJ
      refine ev_loopK [4, 9, 13, 112, 113, 114, 125, 126] (fun p : {p : Nat // p ≤ 4} => [(127, .int .i64 p.1)]) (fun p => [⟨.box false 24, true, 0, reqV rq0⟩, ⟨.box false 64, true, 0, deckV l Q3.2⟩, ⟨.box false 37, true, 0, outsV xs[i]!⟩]) (fun p => 4 - p.1) (⟨0, by simp⟩) 3 (by simp only [go_sem]; rfl) ?_ (by first | rfl | (simp only [go_sem]; done)) (by simp) (by first | rfl | (simp only [go_sem]; done)) (by first | rfl | (simp only [go_sem]; done)) (by first | rfl | (simp only [go_sem]; done)) ?_
      · (simp only [go_sem]; (try simp []); done)
      intro J hJ
      rintro ⟨j, hj⟩
      by_cases hjl : j < 4
      · have fw := wdo_fn xs[i]! qs[j]! (hqa j hjl)
        have fr := rdo_fn xs[i]! qs[j]! (hqa j hjl)
        have ha1 := wact_fn qs[j]!.call
        have ha2 := ract_fn qs[j]!.call
        generalize sDo xs[i]! qs[j]! = D at fw fr
        have fe := rress_eq D.2.1
        have fo := rsao_eq D.1
        have x4 : (actB qs[j]!.call != actB qs[j]!.call) = false := by simp
        refine zst ?_
        refine zcd (fw) ?_
        refine zcd (fr) ?_
        refine zcd (fe) ?_
        refine zcd (fo) ?_
        refine zcd (ha1) ?_
        (first | refine callD (ha2) ?_ | refine callDw (ha2) ?_); refine zev ?_
        refine zsx x4 ?_
        exact zn3 (hJ _ (⟨j + 1, hjl⟩) (by first | omega | (dsimp only; omega) | (simp; omega))) hjl
      · obtain rfl : j = 4 := by omega
        have hJ := hJ0
        refine zst ?_
        exact zn2 (hJ _ (⟨(i + 1, Q3.2), by dsimp only; omega, hk3⟩) (by first | omega | (dsimp only; omega) | (simp; omega))) hlt
    · obtain rfl : i = 2 := by omega
      refine zst ?_
      refine zcd (fa) ?_
      exact zrt m_odoes_ok
theorem odo_law {a0 : Request} {c0 : Array Value} {a1 : List Int} {v1 : Value} {a2 : Int} {v2 : Value} {a3 : Int} {v3 : Value} (W : World) (e0 : Request.sh.rd (old W) W a0 c0.toList) (e1 : (Sh.slice (Sh.int .i64)).rd (old W) W a1 [v1]) (e2 : (Sh.int .i64).rd (old W) W a2 [v2]) (e3 : (Sh.int .i64).rd (old W) W a3 [v3]) :
    Calls Tryz.prog 3 #[.agg c0, v1, v2, v3] W fun e w' => e = .returned (.bool true) ∧ Below W.heap.size W w' :=
  Fnc.law (odoes_fn a0 a1 a2 a3) (RdTs.agg enc_request e0 (RdTs.slice enc_i64s e1 (RdTs.int e2 (RdTs.int e3 RdTs.nil'))))
end Go.Proofs.YtkfpcgkmemfdaaaGreat
