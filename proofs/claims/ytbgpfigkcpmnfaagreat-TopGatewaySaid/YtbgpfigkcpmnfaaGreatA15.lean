import Derived.Test.YtbgpfigkcpmnfaaGreatA8
import Derived.Test.YtbgpfigkcpmnfaaGreatA13
import Derived.Test.YtbgpfigkcpmnfaaGreatA6
set_option linter.unusedSimpArgs false
set_option linter.unusedVariables false
set_option maxHeartbeats 64000000
set_option maxRecDepth 100000
namespace Go.Proofs.YtbgpfigkcpmnfaaGreat
open Go Go.RowKit Rdn Rdn.Dp
def setF (o:Rdn.Outside) (f:Files):Rdn.Outside:=⟨o.clock,o.random,o.inputs,f,o.outputs⟩
def resB (c:Canon) (d:List Canon) (ok:Bool):Rdn.Result:=if ok=true then okR c d else xc7
theorem xe1 (c:Canon) (d:List Canon):resB c d true=okR c d:=rfl
theorem xcl (c:Canon) (d:List Canon):resB c d false=xc7:=rfl
def doS (o:Rdn.Outside) (q:Request):Rdn.Outside×Rdn.Result:=
 if q.call=1 then(setF o (xcb o.files q.args[0]!.val q.data).1,resB (numR (xcb o.files q.args[0]!.val q.data).2.1) [] ((xcb o.files q.args[0]!.val q.data).2.2))
 else if q.call=2 then(setF o (xda o.files q.args[0]!.val q.args[2]!.val).1,resB (numR (xda o.files q.args[0]!.val q.args[2]!.val).2.1.length) (xda o.files q.args[0]!.val q.args[2]!.val).2.1 ((xda o.files q.args[0]!.val q.args[2]!.val).2.2))
 else if q.call=3 then(setF o (xes o.files q.args[0]!.val q.args[1]!.val).1,resB (⟨2,IntKind.u16.wrap (xes o.files q.args[0]!.val q.args[1]!.val).2,0,0⟩) [] (decide ((0:Int)≤(xes o.files q.args[0]!.val q.args[1]!.val).2)))
 else if q.call=4 then(setF o (xdu o.files q.args[0]!.val).1,resB (⟨0,0,0,0⟩) [] ((xdu o.files q.args[0]!.val).2))
 else if q.call=5 then(setF o (xgl o.files q.args[0]!.val q.args[1]!.val).1,resB (⟨0,0,0,0⟩) [] ((xgl o.files q.args[0]!.val q.args[1]!.val).2))
 else if q.call=6 then(⟨(xcq o.clock).1,o.random,o.inputs,o.files,o.outputs⟩,resB ((xcq o.clock).2.1) [] ((xcq o.clock).2.2))
 else if q.call=7 then(⟨o.clock,(xcq o.random).1,o.inputs,o.files,o.outputs⟩,resB ((xcq o.random).2.1) [] ((xcq o.random).2.2))
 else if q.call=13 then(⟨o.clock,o.random,o.inputs,o.files,(sSend o.outputs q.args[0]!.val q.data).1⟩,resB (numR (sSend o.outputs q.args[0]!.val q.data).2.1) [] ((sSend o.outputs q.args[0]!.val q.data).2.2))
 else if q.call=14 then(⟨o.clock,o.random,(xd0 o.inputs q.args[0]!.val q.args[2]!.val).1,o.files,o.outputs⟩,resB (numR (xd0 o.inputs q.args[0]!.val q.args[2]!.val).2.1.length) (xd0 o.inputs q.args[0]!.val q.args[2]!.val).2.1 ((xd0 o.inputs q.args[0]!.val q.args[2]!.val).2.2))
 else(o,xc7)
theorem yjc {o:Rdn.Outside} {q:Request} (c:q.call=1):doS o q=(setF o (xcb o.files q.args[0]!.val q.data).1,resB (numR (xcb o.files q.args[0]!.val q.data).2.1) [] ((xcb o.files q.args[0]!.val q.data).2.2)):=by
 unfold doS;rw [if_pos c]
theorem yjd {o:Rdn.Outside} {q:Request} (c:q.call=2):doS o q=(setF o (xda o.files q.args[0]!.val q.args[2]!.val).1,resB (numR (xda o.files q.args[0]!.val q.args[2]!.val).2.1.length) (xda o.files q.args[0]!.val q.args[2]!.val).2.1 ((xda o.files q.args[0]!.val q.args[2]!.val).2.2)):=by
 unfold doS;rw [if_neg (by omega),if_pos c]
theorem yje {o:Rdn.Outside} {q:Request} (c:q.call=3):doS o q=(setF o (xes o.files q.args[0]!.val q.args[1]!.val).1,resB (⟨2,IntKind.u16.wrap (xes o.files q.args[0]!.val q.args[1]!.val).2,0,0⟩) [] (decide ((0:Int)≤(xes o.files q.args[0]!.val q.args[1]!.val).2))):=by
 unfold doS;rw [if_neg (by omega),if_neg (by omega),if_pos c]
theorem yjf {o:Rdn.Outside} {q:Request} (c:q.call=4):doS o q=(setF o (xdu o.files q.args[0]!.val).1,resB (⟨0,0,0,0⟩) [] ((xdu o.files q.args[0]!.val).2)):=by
 unfold doS;rw [if_neg (by omega),if_neg (by omega),if_neg (by omega),if_pos c]
theorem yjg {o:Rdn.Outside} {q:Request} (c:q.call=5):doS o q=(setF o (xgl o.files q.args[0]!.val q.args[1]!.val).1,resB (⟨0,0,0,0⟩) [] ((xgl o.files q.args[0]!.val q.args[1]!.val).2)):=by
 unfold doS;rw [if_neg (by omega),if_neg (by omega),if_neg (by omega),if_neg (by omega),if_pos c]
theorem yjh {o:Rdn.Outside} {q:Request} (c:q.call=6):doS o q=(⟨(xcq o.clock).1,o.random,o.inputs,o.files,o.outputs⟩,resB ((xcq o.clock).2.1) [] ((xcq o.clock).2.2)):=by
 unfold doS;rw [if_neg (by omega),if_neg (by omega),if_neg (by omega),if_neg (by omega),if_neg (by omega),if_pos c]
theorem yji {o:Rdn.Outside} {q:Request} (c:q.call=7):doS o q=(⟨o.clock,(xcq o.random).1,o.inputs,o.files,o.outputs⟩,resB ((xcq o.random).2.1) [] ((xcq o.random).2.2)):=by
 unfold doS;rw [if_neg (by omega),if_neg (by omega),if_neg (by omega),if_neg (by omega),if_neg (by omega),if_neg (by omega),if_pos c]
theorem yeb {o:Rdn.Outside} {q:Request} (c:q.call=13):doS o q=(⟨o.clock,o.random,o.inputs,o.files,(sSend o.outputs q.args[0]!.val q.data).1⟩,resB (numR (sSend o.outputs q.args[0]!.val q.data).2.1) [] ((sSend o.outputs q.args[0]!.val q.data).2.2)):=by
 unfold doS;rw [if_neg (by omega),if_neg (by omega),if_neg (by omega),if_neg (by omega),if_neg (by omega),if_neg (by omega),if_neg (by omega),if_pos c]
theorem yec {o:Rdn.Outside} {q:Request} (c:q.call=14):doS o q=(⟨o.clock,o.random,(xd0 o.inputs q.args[0]!.val q.args[2]!.val).1,o.files,o.outputs⟩,resB (numR (xd0 o.inputs q.args[0]!.val q.args[2]!.val).2.1.length) (xd0 o.inputs q.args[0]!.val q.args[2]!.val).2.1 ((xd0 o.inputs q.args[0]!.val q.args[2]!.val).2.2)):=by
 unfold doS;rw [if_neg (by omega),if_neg (by omega),if_neg (by omega),if_neg (by omega),if_neg (by omega),if_neg (by omega),if_neg (by omega),if_neg (by omega),if_pos c]
def wordQ (q:Request):Prop:=∀i,i<q.args.length→0≤q.args[i]!.val∧q.args[i]!.val≤65535
theorem xe9 {q:Request} (h:xe2 q=true):q.args.length=(kl q.call).length:=by
 unfold xe2 xja at h;simp only [Bool.and_eq_true,decide_eq_true_eq] at h;rw [h.2.1,xrp]
theorem xdn {q:Request} (h:xe2 q=true):FitQ q∧q.stop=1:=by
 unfold xe2 at h;simp only [Bool.and_eq_true,decide_eq_true_eq] at h;exact⟨yb3 h.1.1,h.1.2⟩
theorem xu4 {q:Request} (F:FitQ q):q.data.length≤16:=by
 have:=F.data;unfold xba at this;simp only [Bool.and_eq_true,decide_eq_true_eq] at this;omega
theorem xdq {q:Request} (hw:(reqV q).wf):wordQ q:=fun k hk=>by
 simp only [V.wf,V.wfs,xdw] at hw;have:=hw.2.2.2.2.2.2.1.1 _ (xc9 hk);exact xou this.2.1
attribute [local irreducible] xcb xda xes xdu xgl sSend xd0 xcq kl xe2
end Go.Proofs.YtbgpfigkcpmnfaaGreat
namespace Go.Proofs.YtbgpfigkcpmnfaaGreat
open Go Go.RowKit Rdn Rdn.Dp
theorem xah:xcd Tryz.prog 110=some (264,Qr ([Qw 2 (.box 47 (.t 0)),Qw 3 (.box 96 (.t 1)),Qw 4 (.alloc 47 (.agg [.nilS,.nilS,.nilS,.agg [.nilS,.nilS],.nilS])),Qw 5 (.alloc 100 (.agg [.agg [.int .u8 0,.int .u16 0,.int .i64 0,.int .i64 0],.nilS,.int .i64 0,.bool false])),Qp 6 (.mov (Qi 0))])
 (.seq (Qr ([QL 30 6 2,Qq 31 42 [(.t 30)],Qp 32 (.un .not (.t 31)),Qm 33 32,Q0 34 33 (.load true 8 (.t 3)),⟨(some 35),(some (33,false)),(.call 111 [(.t 34)])⟩,Q0 36 33 (.un .not (.t 35)),Qt 37 33 36,Qm 38 37,Q0 39 38 (.fieldA 1 1 (.t 3)),Q0 40 38 (.load false 1 (.t 39)),Q0 41 38 (.bin 0 .neq (.t 40) (Qi 1)),Qt 42 38 41,Qm 43 42,Q0 44 43 (.fieldA 5 5 (.t 3)),Q0 45 43 (.load false 1 (.t 44)),⟨(some 46),(some (43,false)),(.call 123 [(.t 45)])⟩,Q0 47 43 (.un .not (.t 46)),Qt 48 43 47,Qm 49 48,Q0 50 49 (.load true 8 (.t 3)),⟨(some 51),(some (49,false)),(.call 124 [(.t 50)])⟩,Q0 52 49 (.un .not (.t 51)),Qt 53 49 52,Qm 54 53,Q0 55 54 (.fieldA 5 5 (.t 3)),Q0 56 54 (.load false 1 (.t 55)),⟨(some 57),(some (54,false)),(.call 85 [(.t 56)])⟩,Q0 58 54 (.bin 0 .eql (.t 57) (Qi 2)),Q0 59 54 (.mov (.t 58)),Q1 60 59 (.fieldA 6 6 (.t 3)),Q1 61 59 (.load false 1 (.t 60)),Q1 62 59 (.idxA 4 (.t 61) (Qi 2)),Q1 63 59 (.fieldA 1 1 (.t 62)),Q1 64 59 (.load false 1 (.t 63)),Q1 65 59 (.bin 0 .gtr (.t 64) (.c (.int .u16 16))),Q0 66 54 (.pick (.t 59) (.t 65) (.c (.bool false))),Qt 67 54 66])
 (.cond (.t 67) (Qr ([Qw 68 (.build none [.nilS,.nilS,.nilS,.agg [.nilS,.nilS],.nilS] []),Qw 69 (.build none [.agg [.int .u8 0,.int .u16 0,.int .i64 0,.int .i64 0],.nilS,.int .i64 0,.bool false] []),Qs 6 4 68,Qs 7 5 69,Qp 6 (.mov (Qi 1))])
 (.ret)) (.skip)))
 (Qr ([QL 70 6 2,Qq 71 44 [(.t 70)],Qw 7 (.alloc 47 (.agg [.nilS,.nilS,.nilS,.agg [.nilS,.nilS],.nilS])),Qs 6 7 71])
 (Qr ([Qw 72 (.buildS 3 1 (.int .i64 0) 3 [(0,(Qi 0)),(1,(Qi 0)),(2,(Qi 0))]),Qm 8 72])
 (.seq (Qr ([Qf 73 6 6 3,Ql 74 1 73,Qn 75 74,Qp 76 (.mov (Qi 0))])
 (.block 0 (.loop (Qr ([Qb 77 .lss 76 75])
 (.seq (.cond (.t 77) (.skip) (.exit 0))
 (.seq (.block 1 (Qr ([Qm 78 76,Qx 79 4 74 76,QL 80 4 79,Qw 10 (.alloc 98 (.agg [.int .u8 0,.int .u16 0,.int .i64 0,.int .i64 0])),Qm 9 78,Qs 4 10 80])
 (.reg [Qm 81 8,Qm 82 9,Qf 83 1 1 10,Ql 84 1 83,Qp 85 (.conv .i64 (.t 84)),Qx 86 1 81 82,Qs 1 86 85])))
 (.reg [Qk 87 .add 76 1,Qm 76 87])))))))
 (Qr ([Qq 88 108 [(Qi 0),(.c (.bool false))],Qw 11 (.alloc 100 (.agg [.agg [.int .u8 0,.int .u16 0,.int .i64 0,.int .i64 0],.nilS,.int .i64 0,.bool false])),Qs 7 11 88])
 (.seq (Qr ([Qf 89 5 5 3,Ql 90 1 89])
 (.block 2 (Qr ([Qk 92 .eql 90 1,Qm 91 92])
 (.cond (.t 91) (.seq (.dreg [Qf 94 3 3 2,QL 95 2 94,Qm 96 8,Qp 97 (.idxA 1 (.t 96) (Qi 0)),Ql 98 1 97,Qf 99 7 7 3,Ql 100 1 99,Qq 101 125 [(.t 95),(.t 98),(.t 100)],Qm 93 101,Qe 102 93 0,Qe 103 93 1,Qe 104 93 2,Qw 12 (.alloc 44 (.agg [.nilS,.nilS])),Qs 2 12 102,Qm 13 103,Qm 14 104] [[],[0],[],[2],[2,3],[],[5],[0,1,2,3,4,5,6],[0,1,2,3,4,5,6,7],[0,1,2,3,4,5,6,7,8],[0,1,2,3,4,5,6,7,8],[0,1,2,3,4,5,6,7,8],[],[0,1,2,3,4,5,6,7,8,9,12],[0,1,2,3,4,5,6,7,8,9,10,12,13],[0,1,2,3,4,5,6,7,8,9,10,11,12,13,14]])
 (.dreg [QL 105 2 12,Qm 106 13,Qm 107 14,Qq 108 108 [(.t 106),(.t 107)],Qf 109 3 3 7,Qs 2 109 105,Qs 7 11 108] [[],[],[],[1,2],[0],[0,1,2,3,4],[0,1,2,3,4,5]])) (Qr ([Qk 111 .eql 90 2,Qm 110 111])
 (.cond (.t 110) (.seq (.dreg [Qf 113 3 3 2,QL 114 2 113,Qm 115 8,Qp 116 (.idxA 1 (.t 115) (Qi 0)),Ql 117 1 116,Qm 118 8,Qp 119 (.idxA 1 (.t 118) (Qi 2)),Ql 120 1 119,Qq 121 126 [(.t 114),(.t 117),(.t 120)],Qm 112 121,Qe 122 112 0,Qe 123 112 1,Qe 124 112 2,Qw 15 (.alloc 44 (.agg [.nilS,.nilS])),Qs 2 15 122,Qm 16 123,Qm 17 124] [[],[0],[],[2],[2,3],[],[5],[5,6],[0,1,2,3,4,5,6,7],[0,1,2,3,4,5,6,7,8],[0,1,2,3,4,5,6,7,8,9],[0,1,2,3,4,5,6,7,8,9],[0,1,2,3,4,5,6,7,8,9],[],[0,1,2,3,4,5,6,7,8,9,10,13],[0,1,2,3,4,5,6,7,8,9,10,11,13,14],[0,1,2,3,4,5,6,7,8,9,10,11,12,13,14,15]])
 (.seq (.dreg [QL 125 2 15,Qm 126 16,Qn 127 126,Qm 128 17,Qq 129 108 [(.t 127),(.t 128)],Qf 130 3 3 7,Qs 2 130 125,Qs 7 11 129] [[],[],[1],[],[1,2,3],[0],[0,1,2,3,4,5],[0,1,2,3,4,5,6]])
 (.reg [Qm 131 16,Qf 132 4 1 11,Qs 1 132 131]))) (Qr ([Qk 134 .eql 90 3,Qm 133 134])
 (.cond (.t 133) (.seq (.dreg [Qf 136 3 3 2,QL 137 2 136,Qm 138 8,Qp 139 (.idxA 1 (.t 138) (Qi 0)),Ql 140 1 139,Qm 141 8,Qp 142 (.idxA 1 (.t 141) (Qi 1)),Ql 143 1 142,Qq 144 127 [(.t 137),(.t 140),(.t 143)],Qm 135 144,Qe 145 135 0,Qe 146 135 1,Qw 18 (.alloc 44 (.agg [.nilS,.nilS])),Qs 2 18 145,Qm 19 146] [[],[0],[],[2],[2,3],[],[5],[5,6],[0,1,2,3,4,5,6,7],[0,1,2,3,4,5,6,7,8],[0,1,2,3,4,5,6,7,8,9],[0,1,2,3,4,5,6,7,8,9],[],[0,1,2,3,4,5,6,7,8,9,10,12],[0,1,2,3,4,5,6,7,8,9,10,11,12,13]])
 (Qr ([QL 147 2 18,Qf 148 3 3 7,Qs 2 148 147])
 (Qr ([Qm 149 19,Qk 150 .geq 149 0])
 (.cond (.t 150) (.reg [Qm 151 19,Qp 152 (.conv .u16 (.t 151)),Qw 153 (.build none [.int .u8 0,.int .u16 0,.int .i64 0,.int .i64 0] [(0,(.c (.int .u8 2))),(1,(.t 152))]),Qf 154 0 0 11,Qs 4 154 153]) (.skip))))) (Qr ([Qk 156 .eql 90 4,Qm 155 156])
 (.cond (.t 155) (.seq (.dreg [Qf 158 3 3 2,QL 159 2 158,Qm 160 8,Qp 161 (.idxA 1 (.t 160) (Qi 0)),Ql 162 1 161,Qq 163 128 [(.t 159),(.t 162)],Qm 157 163,Qe 164 157 0,Qe 165 157 1,Qw 20 (.alloc 44 (.agg [.nilS,.nilS])),Qs 2 20 164,Qm 21 165] [[],[0],[],[2],[2,3],[0,1,2,3,4],[0,1,2,3,4,5],[0,1,2,3,4,5,6],[0,1,2,3,4,5,6],[],[0,1,2,3,4,5,6,7,9],[0,1,2,3,4,5,6,7,8,9,10]])
 (.dreg [QL 166 2 20,Qm 167 21,Qq 168 108 [(Qi 0),(.t 167)],Qf 169 3 3 7,Qs 2 169 166,Qs 7 11 168] [[],[],[1],[0],[0,1,2,3],[0,1,2,3,4]])) (Qr ([Qk 171 .eql 90 5,Qm 170 171])
 (.cond (.t 170) (.seq (.dreg [Qf 173 3 3 2,QL 174 2 173,Qm 175 8,Qp 176 (.idxA 1 (.t 175) (Qi 0)),Ql 177 1 176,Qm 178 8,Qp 179 (.idxA 1 (.t 178) (Qi 1)),Ql 180 1 179,Qq 181 129 [(.t 174),(.t 177),(.t 180)],Qm 172 181,Qe 182 172 0,Qe 183 172 1,Qw 22 (.alloc 44 (.agg [.nilS,.nilS])),Qs 2 22 182,Qm 23 183] [[],[0],[],[2],[2,3],[],[5],[5,6],[0,1,2,3,4,5,6,7],[0,1,2,3,4,5,6,7,8],[0,1,2,3,4,5,6,7,8,9],[0,1,2,3,4,5,6,7,8,9],[],[0,1,2,3,4,5,6,7,8,9,10,12],[0,1,2,3,4,5,6,7,8,9,10,11,12,13]])
 (.dreg [QL 184 2 22,Qm 185 23,Qq 186 108 [(Qi 0),(.t 185)],Qf 187 3 3 7,Qs 2 187 184,Qs 7 11 186] [[],[],[1],[0],[0,1,2,3],[0,1,2,3,4]])) (Qr ([Qk 189 .eql 90 6,Qm 188 189])
 (.cond (.t 188) (Qr ([Qf 190 0 0 2,Ql 191 1 190,Qn 192 191,Qk 193 .gtr 192 0])
 (.cond (.t 193) (.dreg [Qf 194 0 0 2,Ql 195 1 194,Qp 196 (.idxA 1 (.t 195) (Qi 0)),Ql 197 1 196,Qp 198 (.conv .i64 (.t 197)),Qq 199 108 [(.t 198),(.c (.bool true))],Qf 200 0 0 7,Ql 201 1 200,Qw 202 (.sl 1 (.t 201) (some (Qi 1)) none none),Qs 7 11 199,Qf 203 0 0 7,Qs 1 203 202] [[],[0],[0,1],[0,1,2],[0,1,2,3],[0,1,2,3,4],[],[6],[6,7],[0,1,2,3,4,5],[0,1,2,3,4,5,6,7,8,9],[0,1,2,3,4,5,6,7,8,9,10]]) (.skip))) (Qr ([Qk 205 .eql 90 7,Qm 204 205])
 (.cond (.t 204) (Qr ([Qf 206 1 1 2,Ql 207 1 206,Qn 208 207,Qk 209 .gtr 208 0])
 (.cond (.t 209) (.dreg [Qf 210 1 1 2,Ql 211 1 210,Qp 212 (.idxA 1 (.t 211) (Qi 0)),Ql 213 1 212,Qp 214 (.conv .i64 (.t 213)),Qq 215 108 [(.t 214),(.c (.bool true))],Qf 216 1 1 7,Ql 217 1 216,Qw 218 (.sl 1 (.t 217) (some (Qi 1)) none none),Qs 7 11 215,Qf 219 1 1 7,Qs 1 219 218] [[],[0],[0,1],[0,1,2],[0,1,2,3],[0,1,2,3,4],[],[6],[6,7],[0,1,2,3,4,5],[0,1,2,3,4,5,6,7,8,9],[0,1,2,3,4,5,6,7,8,9,10]]) (.skip))) (Qr ([Qk 221 .eql 90 13,Qm 220 221])
 (.cond (.t 220) (.seq (.dreg [Qf 223 5 4 2,Ql 224 1 223,Qm 225 8,Qp 226 (.idxA 1 (.t 225) (Qi 0)),Ql 227 1 226,Qf 228 7 7 3,Ql 229 1 228,Qq 230 130 [(.t 224),(.t 227),(.t 229)],Qm 222 230,Qe 231 222 0,Qe 232 222 1,Qe 233 222 2,Qm 24 231,Qm 25 232,Qm 26 233] [[],[0],[],[2],[2,3],[],[5],[0,1,2,3,4,5,6],[0,1,2,3,4,5,6,7],[0,1,2,3,4,5,6,7,8],[0,1,2,3,4,5,6,7,8],[0,1,2,3,4,5,6,7,8],[0,1,2,3,4,5,6,7,8,9],[0,1,2,3,4,5,6,7,8,9,10,12],[0,1,2,3,4,5,6,7,8,9,10,11,12,13]])
 (.reg [Qm 234 24,Qm 235 25,Qm 236 26,Qq 237 108 [(.t 235),(.t 236)],Qf 238 5 4 7,Qs 1 238 234,Qs 7 11 237])) (Qr ([Qk 240 .eql 90 14,Qm 239 240])
 (.cond (.t 239) (.seq (.dreg [Qf 242 2 2 2,Ql 243 1 242,Qm 244 8,Qp 245 (.idxA 1 (.t 244) (Qi 0)),Ql 246 1 245,Qm 247 8,Qp 248 (.idxA 1 (.t 247) (Qi 2)),Ql 249 1 248,Qq 250 131 [(.t 243),(.t 246),(.t 249)],Qm 241 250,Qe 251 241 0,Qe 252 241 1,Qe 253 241 2,Qm 27 251,Qm 28 252,Qm 29 253] [[],[0],[],[2],[2,3],[],[5],[5,6],[0,1,2,3,4,5,6,7],[0,1,2,3,4,5,6,7,8],[0,1,2,3,4,5,6,7,8,9],[0,1,2,3,4,5,6,7,8,9],[0,1,2,3,4,5,6,7,8,9],[0,1,2,3,4,5,6,7,8,9,10],[0,1,2,3,4,5,6,7,8,9,10,11,13],[0,1,2,3,4,5,6,7,8,9,10,11,12,13,14]])
 (Qr ([Qm 254 27,Qm 255 28,Qn 256 255,Qm 257 29,Qq 258 108 [(.t 256),(.t 257)],Qf 259 2 2 7,Qs 1 259 254,Qs 7 11 258])
 (.reg [Qm 260 28,Qf 261 4 1 11,Qs 1 261 260]))) (.skip)))))))))))))))))))))
 (.seq (.dreg [QL 262 6 7,QL 263 7 11,Qs 6 4 262,Qs 7 5 263,Qp 6 (.mov (Qi 0))] [[],[],[0],[0,1,2],[0,1,2,3]])
 (.ret)))))))),[.load true 6 (.t 4),.load true 7 (.t 5),.mov (.t 6)]):=by kernel_rfl
theorem zrd {Q R:Prop} (r:R) (h:Zb R→Q:=by
 intro zr;refine ret zr.h [] ?_;(first|(simp only [go_sem];done)|(simp only [go_sem];((try dsimp only);(repeat' (refine And.intro ?_ ?_))<;>first|with_reducible rfl|(simp only [go_sem];done)|(simp only [go_sem];rfl)|(simp only [go_sem,okR,xc7,setF];done)|(simp only [okR,xc7,setF];(try simp only [go_sem]);first|done|rfl)|(simp only [go_sem];simp [okR,xc7,setF];done)|(simp [okR,xc7,setF];done)|rfl)))):Q:=h ⟨r⟩
theorem zre {Q R:Prop} (r:R) (h:Zb R→Q:=by
 intro zr;refine ret zr.h [] ?_;(first|(simp only [go_sem];done)|(simp only [go_sem];((try dsimp only);(repeat' (refine And.intro ?_ ?_))<;>first|with_reducible rfl|(simp only [go_sem];done)|(simp only [go_sem];rfl)|(simp only [go_sem,okR,xc7];done)|(simp only [okR,xc7];(try simp only [go_sem]);first|done|rfl)|(simp only [go_sem];simp [okR,xc7];done)|(simp [okR,xc7];done)|rfl)))):Q:=h ⟨r⟩
theorem zrf {Q R:Prop} (r:R) (h:Zb R→Q:=by
 intro zr;refine ret zr.h [] ?_;(first|(simp only [go_sem];done)|(simp only [go_sem];((try dsimp only);(repeat' (refine And.intro ?_ ?_))<;>first|with_reducible rfl|(simp only [go_sem];done)|(simp only [go_sem];rfl)|(simp only [go_sem,okR];done)|(simp only [okR];(try simp only [go_sem]);first|done|rfl)|(simp only [go_sem];simp [okR];done)|(simp [okR];done)|rfl)))):Q:=h ⟨r⟩
theorem xan (n:Int) (ok:Bool):Fnc Tryz.prog 108 [.int .i64 n,.bool ok] (fun x obs=>x=resV (resB (numR n) [] ok)∧obs=[]):=by
 refine zcf Tryz.prog 108 fun mz=>?_;refine Fnc.low ?_;cases ok with
 |true=>
  rw [xe1];refine zgo mz fun W S=>?_;refine xc5 0 (.agg [_,.sl false 4 [],_,_]) rfl (SubV.agg ⟨SubV.refl _,SubV.nil _ _,SubV.refl _,SubV.refl _,trivial⟩) rfl ?_;refine ret mz [] ?_;(first|(simp only [go_sem];done)|(simp only [go_sem];((try dsimp only);(repeat' (refine And.intro ?_ ?_))<;>first|with_reducible rfl|(simp only [go_sem];done)|(simp only [go_sem];rfl)|(simp only [go_sem,okR,numR];done)|(simp only [okR,numR];(try simp only [go_sem]);first|done|rfl)|(simp only [go_sem];simp [okR,numR];done)|(simp [okR,numR];done)|rfl)))
 |false=>
  rw [xcl];refine zgo mz fun W S=>?_;refine xc5 0 (.agg [_,.sl false 4 [],_,_]) rfl (SubV.agg ⟨SubV.refl _,SubV.nil _ _,SubV.refl _,SubV.refl _,trivial⟩) rfl ?_;exact zre mz
theorem xj2 {q:Request} (h:xe2 q=true):xja (kl q.call) (xhh q)=true:=by
 unfold xe2 at h;simp only [Bool.and_eq_true] at h;exact h.2
theorem yda {f:Files} {h n:Int} (e:(xda f h n).2.2=false):(xda f h n).2.1=[]:=by
 unfold xda at e⊢;split at e
 ·cases e
 ·rw [if_neg (by assumption)]
theorem ydb {l:List (List Int)} {s n:Int} (e:(xd0 l s n).2.2=false):(xd0 l s n).2.1=[]:=by
 unfold xd0 at e⊢;split at e
 ·rw [if_pos (by assumption)]
 ·cases e
attribute [local irreducible] xcb xda xes xdu xgl sSend xd0 kl xe2 valQ xja xhh
attribute [local go_sem] xjy xj7
theorem yho (o:Rdn.Outside) (q:Request) (F:FitO o) (A:xe2 q=true) (c:q.call=1):Fnc Tryz.prog 110 [xct o,reqV q] (fun x obs=>x=.tup [xct (doS o q).1,resV (doS o q).2,.int .i64 0]∧obs=[]):=by
 refine Fnc.low (Fnc.wf fun hw=>?_);have hwd:=xdq hw.2.1;clear hw;have hl:=xe9 A;rw [show(kl q.call).length=3 by rw [c];unfold kl;rfl] at hl;rw [yjc c];have fv:=xdr o;rw [xhe F] at fv;obtain⟨FQ,hst⟩:=xdn A;have fa:=xds q;rw [xhf FQ] at fa;have fx:=xg5 q.call;rw [show actB q.call=true by rw [c];rfl] at fx;have fkk:=xd9 q (by omega);rw [xj2 A] at fkk;have fb:=xca q.call (by omega) (by omega);rw [show bufS q.call=1 by rw [c];rfl] at fb;have fc:=xec o F;have f00:=xan 0 false;rw [xcl] at f00;have w0:=hwd 0 (by omega);have v0:IntKind.i64.wrap q.args[0]!.val=q.args[0]!.val:=xaq (by omega) (by omega);have w1:=hwd 1 (by omega);have v1:IntKind.i64.wrap q.args[1]!.val=q.args[1]!.val:=xaq (by omega) (by omega);have w2:=hwd 2 (by omega);have v2:IntKind.i64.wrap q.args[2]!.val=q.args[2]!.val:=xaq (by omega) (by omega);have hd0:=xu4 FQ;have hd:q.data.length≤100000:=by omega
 have fw:=ya4 o.files F.f q.args[0]!.val q.data hd;generalize hr:xcb o.files q.args[0]!.val q.data=r at fw⊢;cases e:r.2.2 with
 |true=>
  rw [xe1];rw [e] at fw;have fz:=xan r.2.1 true;rw [xe1] at fz;refine zgo xah fun W S=>?_;refine zcd (fv) ?_;refine zcd (fa) ?_;refine zcd (fx) ?_;refine zcd (fkk) ?_;refine zcd (fb) ?_;refine zcd (fc) ?_;refine xad 4 ?_;refine zsx (And.intro v0 (And.intro v1 (v2))) ?_
  (first|refine xaj (f00) ?_|refine xaa (f00) ?_);simp only [go_sem,xc7,okR]
  refine zst ?_;refine zcd (fw) ?_
  (first|refine xaj (fz) ?_|refine xaa (fz) ?_);simp only [go_sem,okR,xc7]
  refine zst ?_;exact zrd xah
 |false=>
  rw [xcl];rw [e] at fw;have fz:=xan r.2.1 false;rw [xcl] at fz;refine zgo xah fun W S=>?_;refine zcd (fv) ?_;refine zcd (fa) ?_;refine zcd (fx) ?_;refine zcd (fkk) ?_;refine zcd (fb) ?_;refine zcd (fc) ?_;refine xad 4 ?_;refine zsx (And.intro v0 (And.intro v1 (v2))) ?_
  (first|refine xaj (f00) ?_|refine xaa (f00) ?_);simp only [go_sem,xc7,okR]
  refine zst ?_;refine zcd (fw) ?_
  (first|refine xaj (fz) ?_|refine xaa (fz) ?_);simp only [go_sem,okR,xc7]
  refine zst ?_;exact zrd xah
theorem yhp (o:Rdn.Outside) (q:Request) (F:FitO o) (A:xe2 q=true) (c:q.call=2) (h16:q.args[2]!.val≤16):Fnc Tryz.prog 110 [xct o,reqV q] (fun x obs=>x=.tup [xct (doS o q).1,resV (doS o q).2,.int .i64 0]∧obs=[]):=by
 refine Fnc.low (Fnc.wf fun hw=>?_);have hwd:=xdq hw.2.1;clear hw;have hl:=xe9 A;rw [show(kl q.call).length=3 by rw [c];unfold kl;rfl] at hl;rw [yjd c];have fv:=xdr o;rw [xhe F] at fv;obtain⟨FQ,hst⟩:=xdn A;have fa:=xds q;rw [xhf FQ] at fa;have fx:=xg5 q.call;rw [show actB q.call=true by rw [c];rfl] at fx;have fkk:=xd9 q (by omega);rw [xj2 A] at fkk;have fb:=xca q.call (by omega) (by omega);rw [show bufS q.call=2 by rw [c];rfl] at fb;have fc:=xec o F;have f00:=xan 0 false;rw [xcl] at f00;have w0:=hwd 0 (by omega);have v0:IntKind.i64.wrap q.args[0]!.val=q.args[0]!.val:=xaq (by omega) (by omega);have w1:=hwd 1 (by omega);have v1:IntKind.i64.wrap q.args[1]!.val=q.args[1]!.val:=xaq (by omega) (by omega);have w2:=hwd 2 (by omega);have v2:IntKind.i64.wrap q.args[2]!.val=q.args[2]!.val:=xaq (by omega) (by omega);have fw:=yd2 o.files F.f q.args[0]!.val q.args[2]!.val;have hno:(xda o.files q.args[0]!.val q.args[2]!.val).2.2=false→(xda o.files q.args[0]!.val q.args[2]!.val).2.1=[]:=yda;generalize hr:xda o.files q.args[0]!.val q.args[2]!.val=r at fw hno⊢;cases e:r.2.2 with
 |true=>
  rw [xe1];rw [e] at fw;have fz:=xan (r.2.1.length:Int) true;rw [xe1] at fz;refine zgo xah fun W S=>?_;refine zcd (fv) ?_;refine zcd (fa) ?_;refine zcd (fx) ?_;refine zcd (fkk) ?_;refine zcd (fb) ?_;refine zcd (fc) ?_;refine xad 4 ?_;refine zsx (And.intro v0 (And.intro v1 (v2))) ?_
  (first|refine xaj (f00) ?_|refine xaa (f00) ?_);simp only [go_sem,xc7,okR]
  refine zst ?_;refine zcd (fw) ?_
  (first|refine xaj (fz) ?_|refine xaa (fz) ?_);simp only [go_sem,okR,xc7]
  refine zst ?_;exact zrd xah
 |false=>
  rw [xcl];rw [e] at fw;have fz:=xan (r.2.1.length:Int) false;rw [xcl] at fz;rw [hno e] at fw;rw [hno e] at fz;refine zgo xah fun W S=>?_;refine zcd (fv) ?_;refine zcd (fa) ?_;refine zcd (fx) ?_;refine zcd (fkk) ?_;refine zcd (fb) ?_;refine zcd (fc) ?_;refine xad 4 ?_;refine zsx (And.intro v0 (And.intro v1 (v2))) ?_
  (first|refine xaj (f00) ?_|refine xaa (f00) ?_);simp only [go_sem,xc7,okR]
  refine zst ?_;refine zcd (fw) ?_
  (first|refine xaj (fz) ?_|refine xaa (fz) ?_);simp only [go_sem,okR,xc7]
  refine zst ?_;exact zrd xah
theorem yhq (o:Rdn.Outside) (q:Request) (F:FitO o) (A:xe2 q=true) (c:q.call=3):Fnc Tryz.prog 110 [xct o,reqV q] (fun x obs=>x=.tup [xct (doS o q).1,resV (doS o q).2,.int .i64 0]∧obs=[]):=by
 refine Fnc.low (Fnc.wf fun hw=>?_);have hwd:=xdq hw.2.1;clear hw;have hl:=xe9 A;rw [show(kl q.call).length=2 by rw [c];unfold kl;rfl] at hl;rw [yje c];have fv:=xdr o;rw [xhe F] at fv;obtain⟨FQ,hst⟩:=xdn A;have fa:=xds q;rw [xhf FQ] at fa;have fx:=xg5 q.call;rw [show actB q.call=true by rw [c];rfl] at fx;have fkk:=xd9 q (by omega);rw [xj2 A] at fkk;have fb:=xca q.call (by omega) (by omega);rw [show bufS q.call=0 by rw [c];rfl] at fb;have fc:=xec o F;have f00:=xan 0 false;rw [xcl] at f00;have w0:=hwd 0 (by omega);have v0:IntKind.i64.wrap q.args[0]!.val=q.args[0]!.val:=xaq (by omega) (by omega);have w1:=hwd 1 (by omega);have v1:IntKind.i64.wrap q.args[1]!.val=q.args[1]!.val:=xaq (by omega) (by omega);have fw:=ya0 o.files F.f q.args[0]!.val q.args[1]!.val;generalize hr:xes o.files q.args[0]!.val q.args[1]!.val=r at fw⊢;by_cases e:0≤r.2
 ·rw [decT e,xe1]
  refine zgo xah fun W S=>?_;refine zcd (fv) ?_;refine zcd (fa) ?_;refine zcd (fx) ?_;refine zcd (fkk) ?_;refine zcd (fb) ?_;refine zcd (fc) ?_;refine xad 3 ?_;refine zsx (And.intro v0 (v1)) ?_
  (first|refine xaj (f00) ?_|refine xaa (f00) ?_);simp only [go_sem,xc7,okR]
  refine zst ?_;refine zcd (fw) ?_;exact zrd xah
 ·rw [decF e,xcl]
  refine zgo xah fun W S=>?_;refine zcd (fv) ?_;refine zcd (fa) ?_;refine zcd (fx) ?_;refine zcd (fkk) ?_;refine zcd (fb) ?_;refine zcd (fc) ?_;refine xad 3 ?_;refine zsx (And.intro v0 (v1)) ?_
  (first|refine xaj (f00) ?_|refine xaa (f00) ?_);simp only [go_sem,xc7,okR]
  refine zst ?_;refine zcd (fw) ?_;exact zrd xah
theorem yhr (o:Rdn.Outside) (q:Request) (F:FitO o) (A:xe2 q=true) (c:q.call=4):Fnc Tryz.prog 110 [xct o,reqV q] (fun x obs=>x=.tup [xct (doS o q).1,resV (doS o q).2,.int .i64 0]∧obs=[]):=by
 refine Fnc.low (Fnc.wf fun hw=>?_);have hwd:=xdq hw.2.1;clear hw;have hl:=xe9 A;rw [show(kl q.call).length=1 by rw [c];unfold kl;rfl] at hl;rw [yjf c];have fv:=xdr o;rw [xhe F] at fv;obtain⟨FQ,hst⟩:=xdn A;have fa:=xds q;rw [xhf FQ] at fa;have fx:=xg5 q.call;rw [show actB q.call=true by rw [c];rfl] at fx;have fkk:=xd9 q (by omega);rw [xj2 A] at fkk;have fb:=xca q.call (by omega) (by omega);rw [show bufS q.call=0 by rw [c];rfl] at fb;have fc:=xec o F;have f00:=xan 0 false;rw [xcl] at f00;have w0:=hwd 0 (by omega);have v0:IntKind.i64.wrap q.args[0]!.val=q.args[0]!.val:=xaq (by omega) (by omega);have fw:=xzt o.files F.f q.args[0]!.val;generalize hr:xdu o.files q.args[0]!.val=r at fw⊢;cases e:r.2 with
 |true=>
  rw [xe1];rw [e] at fw;have fz:=xan (0:Int) true;rw [xe1] at fz;rw [yet] at fz;refine zgo xah fun W S=>?_;refine zcd (fv) ?_;refine zcd (fa) ?_;refine zcd (fx) ?_;refine zcd (fkk) ?_;refine zcd (fb) ?_;refine zcd (fc) ?_;refine xad 2 ?_;refine zsx v0 ?_
  (first|refine xaj (f00) ?_|refine xaa (f00) ?_);simp only [go_sem,xc7,okR]
  refine zst ?_;refine zcd (fw) ?_
  (first|refine xaj (fz) ?_|refine xaa (fz) ?_);simp only [go_sem,okR,xc7]
  refine zst ?_;exact zrd xah
 |false=>
  rw [xcl];rw [e] at fw;have fz:=xan (0:Int) false;rw [xcl] at fz;refine zgo xah fun W S=>?_;refine zcd (fv) ?_;refine zcd (fa) ?_;refine zcd (fx) ?_;refine zcd (fkk) ?_;refine zcd (fb) ?_;refine zcd (fc) ?_;refine xad 2 ?_;refine zsx v0 ?_
  (first|refine xaj (f00) ?_|refine xaa (f00) ?_);simp only [go_sem,xc7,okR]
  refine zst ?_;refine zcd (fw) ?_
  (first|refine xaj (fz) ?_|refine xaa (fz) ?_);simp only [go_sem,okR,xc7]
  refine zst ?_;exact zrd xah
theorem yhs (o:Rdn.Outside) (q:Request) (F:FitO o) (A:xe2 q=true) (c:q.call=5):Fnc Tryz.prog 110 [xct o,reqV q] (fun x obs=>x=.tup [xct (doS o q).1,resV (doS o q).2,.int .i64 0]∧obs=[]):=by
 refine Fnc.low (Fnc.wf fun hw=>?_);have hwd:=xdq hw.2.1;clear hw;have hl:=xe9 A;rw [show(kl q.call).length=2 by rw [c];unfold kl;rfl] at hl;rw [yjg c];have fv:=xdr o;rw [xhe F] at fv;obtain⟨FQ,hst⟩:=xdn A;have fa:=xds q;rw [xhf FQ] at fa;have fx:=xg5 q.call;rw [show actB q.call=true by rw [c];rfl] at fx;have fkk:=xd9 q (by omega);rw [xj2 A] at fkk;have fb:=xca q.call (by omega) (by omega);rw [show bufS q.call=0 by rw [c];rfl] at fb;have fc:=xec o F;have f00:=xan 0 false;rw [xcl] at f00;have w0:=hwd 0 (by omega);have v0:IntKind.i64.wrap q.args[0]!.val=q.args[0]!.val:=xaq (by omega) (by omega);have w1:=hwd 1 (by omega);have v1:IntKind.i64.wrap q.args[1]!.val=q.args[1]!.val:=xaq (by omega) (by omega);have fw:=yd3 o.files F.f q.args[0]!.val q.args[1]!.val;generalize hr:xgl o.files q.args[0]!.val q.args[1]!.val=r at fw⊢;cases e:r.2 with
 |true=>
  rw [xe1];rw [e] at fw;have fz:=xan (0:Int) true;rw [xe1] at fz;rw [yet] at fz;refine zgo xah fun W S=>?_;refine zcd (fv) ?_;refine zcd (fa) ?_;refine zcd (fx) ?_;refine zcd (fkk) ?_;refine zcd (fb) ?_;refine zcd (fc) ?_;refine xad 3 ?_;refine zsx (And.intro v0 (v1)) ?_
  (first|refine xaj (f00) ?_|refine xaa (f00) ?_);simp only [go_sem,xc7,okR]
  refine zst ?_;refine zcd (fw) ?_
  (first|refine xaj (fz) ?_|refine xaa (fz) ?_);simp only [go_sem,okR,xc7]
  refine zst ?_;exact zrd xah
 |false=>
  rw [xcl];rw [e] at fw;have fz:=xan (0:Int) false;rw [xcl] at fz;refine zgo xah fun W S=>?_;refine zcd (fv) ?_;refine zcd (fa) ?_;refine zcd (fx) ?_;refine zcd (fkk) ?_;refine zcd (fb) ?_;refine zcd (fc) ?_;refine xad 3 ?_;refine zsx (And.intro v0 (v1)) ?_
  (first|refine xaj (f00) ?_|refine xaa (f00) ?_);simp only [go_sem,xc7,okR]
  refine zst ?_;refine zcd (fw) ?_
  (first|refine xaj (fz) ?_|refine xaa (fz) ?_);simp only [go_sem,okR,xc7]
  refine zst ?_;exact zrd xah
theorem yht (o:Rdn.Outside) (q:Request) (F:FitO o) (A:xe2 q=true) (c:q.call=6):Fnc Tryz.prog 110 [xct o,reqV q] (fun x obs=>x=.tup [xct (doS o q).1,resV (doS o q).2,.int .i64 0]∧obs=[]):=by
 refine Fnc.low (Fnc.wf fun hw=>?_);have hwd:=xdq hw.2.1;have hm:∀k,k<o.clock.length→0≤o.clock[k]!∧o.clock[k]!≤65535:=fun k hk=>by
  have:=hw.1;simp only [V.wf,V.wfs,xdw] at this;exact xou (this.1.1 _ (xc9 hk))
 clear hw;have hl:=xe9 A;rw [show(kl q.call).length=0 by rw [c];unfold kl;rfl] at hl;rw [yjh c];have fv:=xdr o;rw [xhe F] at fv;obtain⟨FQ,hst⟩:=xdn A;have fa:=xds q;rw [xhf FQ] at fa;have fx:=xg5 q.call;rw [show actB q.call=true by rw [c];rfl] at fx;have fkk:=xd9 q (by omega);rw [xj2 A] at fkk;have fb:=xca q.call (by omega) (by omega);rw [show bufS q.call=0 by rw [c];rfl] at fb;have fc:=xec o F;have f00:=xan 0 false;rw [xcl] at f00;by_cases e:o.clock.length=0
 ·rw [xv5 e,xcl]
  refine zgo xah fun W S=>?_;refine zcd (fv) ?_;refine zcd (fa) ?_;refine zcd (fx) ?_;refine zcd (fkk) ?_;refine zcd (fb) ?_;refine zcd (fc) ?_;refine xad 1 ?_;refine zst ?_
  (first|refine xaj (f00) ?_|refine xaa (f00) ?_);simp only [go_sem,xc7,okR]
  refine zst ?_;exact zre xah
 ·obtain⟨z1,z2⟩:=hm 0 (by omega)
  have z3:IntKind.i64.wrap o.clock[0]! =o.clock[0]!:=xaq (by omega) (by omega);have z4:IntKind.u16.wrap o.clock[0]! =o.clock[0]!:=xto z1 z2;rw [xv4 e,xe1];have fw:=xan o.clock[0]! true;rw [xe1,show numR o.clock[0]! =⟨0,o.clock[0]!,0,0⟩ by unfold numR;rw [z4]] at fw;refine zgo xah fun W S=>?_;refine zcd (fv) ?_;refine zcd (fa) ?_;refine zcd (fx) ?_;refine zcd (fkk) ?_;refine zcd (fb) ?_;refine zcd (fc) ?_;refine xad 1 ?_;refine zst ?_
  (first|refine xaj (f00) ?_|refine xaa (f00) ?_);simp only [go_sem,xc7,okR]
  refine zst ?_;refine zsx z3 ?_
  (first|refine xaj (fw) ?_|refine xaa (fw) ?_);simp only [go_sem,okR]
  refine zst ?_;exact zrf xah
theorem yhu (o:Rdn.Outside) (q:Request) (F:FitO o) (A:xe2 q=true) (c:q.call=7):Fnc Tryz.prog 110 [xct o,reqV q] (fun x obs=>x=.tup [xct (doS o q).1,resV (doS o q).2,.int .i64 0]∧obs=[]):=by
 refine Fnc.low (Fnc.wf fun hw=>?_);have hwd:=xdq hw.2.1;have hm:∀k,k<o.random.length→0≤o.random[k]!∧o.random[k]!≤65535:=fun k hk=>by
  have:=hw.1;simp only [V.wf,V.wfs,xdw] at this;exact xou (this.2.1.1 _ (xc9 hk))
 clear hw;have hl:=xe9 A;rw [show(kl q.call).length=0 by rw [c];unfold kl;rfl] at hl;rw [yji c];have fv:=xdr o;rw [xhe F] at fv;obtain⟨FQ,hst⟩:=xdn A;have fa:=xds q;rw [xhf FQ] at fa;have fx:=xg5 q.call;rw [show actB q.call=true by rw [c];rfl] at fx;have fkk:=xd9 q (by omega);rw [xj2 A] at fkk;have fb:=xca q.call (by omega) (by omega);rw [show bufS q.call=0 by rw [c];rfl] at fb;have fc:=xec o F;have f00:=xan 0 false;rw [xcl] at f00;by_cases e:o.random.length=0
 ·rw [xv5 e,xcl]
  refine zgo xah fun W S=>?_;refine zcd (fv) ?_;refine zcd (fa) ?_;refine zcd (fx) ?_;refine zcd (fkk) ?_;refine zcd (fb) ?_;refine zcd (fc) ?_;refine xad 1 ?_;refine zst ?_
  (first|refine xaj (f00) ?_|refine xaa (f00) ?_);simp only [go_sem,xc7,okR]
  refine zst ?_;exact zre xah
 ·obtain⟨z1,z2⟩:=hm 0 (by omega)
  have z3:IntKind.i64.wrap o.random[0]! =o.random[0]!:=xaq (by omega) (by omega);have z4:IntKind.u16.wrap o.random[0]! =o.random[0]!:=xto z1 z2;rw [xv4 e,xe1];have fw:=xan o.random[0]! true;rw [xe1,show numR o.random[0]! =⟨0,o.random[0]!,0,0⟩ by unfold numR;rw [z4]] at fw;refine zgo xah fun W S=>?_;refine zcd (fv) ?_;refine zcd (fa) ?_;refine zcd (fx) ?_;refine zcd (fkk) ?_;refine zcd (fb) ?_;refine zcd (fc) ?_;refine xad 1 ?_;refine zst ?_
  (first|refine xaj (f00) ?_|refine xaa (f00) ?_);simp only [go_sem,xc7,okR]
  refine zst ?_;refine zsx z3 ?_
  (first|refine xaj (fw) ?_|refine xaa (fw) ?_);simp only [go_sem,okR]
  refine zst ?_;exact zrf xah
theorem ycv (o:Rdn.Outside) (q:Request) (F:FitO o) (A:xe2 q=true) (c:q.call=13):Fnc Tryz.prog 110 [xct o,reqV q] (fun x obs=>x=.tup [xct (doS o q).1,resV (doS o q).2,.int .i64 0]∧obs=[]):=by
 refine Fnc.low (Fnc.wf fun hw=>?_);have hwd:=xdq hw.2.1;clear hw;have hl:=xe9 A;rw [show(kl q.call).length=3 by rw [c];unfold kl;rfl] at hl;rw [yeb c];have fv:=xdr o;rw [xhe F] at fv;obtain⟨FQ,hst⟩:=xdn A;have fa:=xds q;rw [xhf FQ] at fa;have fx:=xg5 q.call;rw [show actB q.call=true by rw [c];rfl] at fx;have fkk:=xd9 q (by omega);rw [xj2 A] at fkk;have fb:=xca q.call (by omega) (by omega);rw [show bufS q.call=1 by rw [c];rfl] at fb;have fc:=xec o F;have f00:=xan 0 false;rw [xcl] at f00;have w0:=hwd 0 (by omega);have v0:IntKind.i64.wrap q.args[0]!.val=q.args[0]!.val:=xaq (by omega) (by omega);have w1:=hwd 1 (by omega);have v1:IntKind.i64.wrap q.args[1]!.val=q.args[1]!.val:=xaq (by omega) (by omega);have w2:=hwd 2 (by omega);have v2:IntKind.i64.wrap q.args[2]!.val=q.args[2]!.val:=xaq (by omega) (by omega);have hd0:=xu4 FQ;have hd:q.data.length≤100000:=by omega
 have fw:=yd4 o.outputs q.args[0]!.val q.data (by have:=F.n;omega) F.short (by omega);generalize hr:sSend o.outputs q.args[0]!.val q.data=r at fw⊢;cases e:r.2.2 with
 |true=>
  rw [xe1];rw [e] at fw;have fz:=xan r.2.1 true;rw [xe1] at fz;refine zgo xah fun W S=>?_;refine zcd (fv) ?_;refine zcd (fa) ?_;refine zcd (fx) ?_;refine zcd (fkk) ?_;refine zcd (fb) ?_;refine zcd (fc) ?_;refine xad 4 ?_;refine zsx (And.intro v0 (And.intro v1 (v2))) ?_
  (first|refine xaj (f00) ?_|refine xaa (f00) ?_);simp only [go_sem,xc7,okR]
  refine zst ?_;refine zcd (fw) ?_
  (first|refine xaj (fz) ?_|refine xaa (fz) ?_);simp only [go_sem,okR,xc7]
  refine zst ?_;exact zrd xah
 |false=>
  rw [xcl];rw [e] at fw;have fz:=xan r.2.1 false;rw [xcl] at fz;refine zgo xah fun W S=>?_;refine zcd (fv) ?_;refine zcd (fa) ?_;refine zcd (fx) ?_;refine zcd (fkk) ?_;refine zcd (fb) ?_;refine zcd (fc) ?_;refine xad 4 ?_;refine zsx (And.intro v0 (And.intro v1 (v2))) ?_
  (first|refine xaj (f00) ?_|refine xaa (f00) ?_);simp only [go_sem,xc7,okR]
  refine zst ?_;refine zcd (fw) ?_
  (first|refine xaj (fz) ?_|refine xaa (fz) ?_);simp only [go_sem,okR,xc7]
  refine zst ?_;exact zrd xah
theorem ycw (o:Rdn.Outside) (q:Request) (F:FitO o) (A:xe2 q=true) (c:q.call=14) (h16:q.args[2]!.val≤16):Fnc Tryz.prog 110 [xct o,reqV q] (fun x obs=>x=.tup [xct (doS o q).1,resV (doS o q).2,.int .i64 0]∧obs=[]):=by
 refine Fnc.low (Fnc.wf fun hw=>?_);have hwd:=xdq hw.2.1;clear hw;have hl:=xe9 A;rw [show(kl q.call).length=3 by rw [c];unfold kl;rfl] at hl;rw [yec c];have fv:=xdr o;rw [xhe F] at fv;obtain⟨FQ,hst⟩:=xdn A;have fa:=xds q;rw [xhf FQ] at fa;have fx:=xg5 q.call;rw [show actB q.call=true by rw [c];rfl] at fx;have fkk:=xd9 q (by omega);rw [xj2 A] at fkk;have fb:=xca q.call (by omega) (by omega);rw [show bufS q.call=2 by rw [c];rfl] at fb;have fc:=xec o F;have f00:=xan 0 false;rw [xcl] at f00;have w0:=hwd 0 (by omega);have v0:IntKind.i64.wrap q.args[0]!.val=q.args[0]!.val:=xaq (by omega) (by omega);have w1:=hwd 1 (by omega);have v1:IntKind.i64.wrap q.args[1]!.val=q.args[1]!.val:=xaq (by omega) (by omega);have w2:=hwd 2 (by omega);have v2:IntKind.i64.wrap q.args[2]!.val=q.args[2]!.val:=xaq (by omega) (by omega);have fw:=xzz o.inputs q.args[0]!.val q.args[2]!.val (by have:=F.i;omega) (fun w hw=>by have:=F.w w hw;omega);have hno:(xd0 o.inputs q.args[0]!.val q.args[2]!.val).2.2=false→(xd0 o.inputs q.args[0]!.val q.args[2]!.val).2.1=[]:=ydb;generalize hr:xd0 o.inputs q.args[0]!.val q.args[2]!.val=r at fw hno⊢;cases e:r.2.2 with
 |true=>
  rw [xe1];rw [e] at fw;have fz:=xan (r.2.1.length:Int) true;rw [xe1] at fz;refine zgo xah fun W S=>?_;refine zcd (fv) ?_;refine zcd (fa) ?_;refine zcd (fx) ?_;refine zcd (fkk) ?_;refine zcd (fb) ?_;refine zcd (fc) ?_;refine xad 4 ?_;refine zsx (And.intro v0 (And.intro v1 (v2))) ?_
  (first|refine xaj (f00) ?_|refine xaa (f00) ?_);simp only [go_sem,xc7,okR]
  refine zst ?_;refine zcd (fw) ?_
  (first|refine xaj (fz) ?_|refine xaa (fz) ?_);simp only [go_sem,okR,xc7]
  refine zst ?_;exact zrd xah
 |false=>
  rw [xcl];rw [e] at fw;have fz:=xan (r.2.1.length:Int) false;rw [xcl] at fz;rw [hno e] at fw;rw [hno e] at fz;refine zgo xah fun W S=>?_;refine zcd (fv) ?_;refine zcd (fa) ?_;refine zcd (fx) ?_;refine zcd (fkk) ?_;refine zcd (fb) ?_;refine zcd (fc) ?_;refine xad 4 ?_;refine zsx (And.intro v0 (And.intro v1 (v2))) ?_
  (first|refine xaj (f00) ?_|refine xaa (f00) ?_);simp only [go_sem,xc7,okR]
  refine zst ?_;refine zcd (fw) ?_
  (first|refine xaj (fz) ?_|refine xaa (fz) ?_);simp only [go_sem,okR,xc7]
  refine zst ?_;exact zrd xah
end Go.Proofs.YtbgpfigkcpmnfaaGreat
namespace Go.Proofs.YtbgpfigkcpmnfaaGreat
open Go Go.RowKit Rdn Rdn.Dp
def xt5 (q:Request):Prop:=bufS q.call=2→q.args[2]!.val≤16
instance (q:Request):Decidable (xt5 q):=by unfold xt5;exact inferInstance
noncomputable def okDo (o:Rdn.Outside) (q:Request):Bool:=valO o && xe2 q && actB q.call && decide (xt5 q)
noncomputable def sDo (o:Rdn.Outside) (q:Request):Rdn.Outside×Rdn.Result×Int:=if okDo o q=true then((doS o q).1,(doS o q).2,0) else(noO,noR,1)
theorem yhz {o:Rdn.Outside} {q:Request} (h:okDo o q=true):sDo o q=((doS o q).1,(doS o q).2,0):=if_pos h
theorem sDo_F {o:Rdn.Outside} {q:Request} (h:okDo o q=false):sDo o q=(noO,noR,1):=if_neg (by rw [h];decide)
theorem xza {o:Rdn.Outside} {q:Request} (h:okDo o q=true):FitO o∧xe2 q=true∧actB q.call=true∧xt5 q:=by
 unfold okDo at h;simp only [Bool.and_eq_true,decide_eq_true_eq] at h;exact⟨yis h.1.1.1,h.1.1.2,h.1.2,h.2⟩
theorem xm2 {c:Int} (h:actB c=true):c=1∨c=2∨c=3∨c=4∨c=5∨c=6∨c=7∨c=13∨c=14:=by
 unfold actB at h;have:=of_decide_eq_true h;omega
theorem noR_V:resV noR=.agg [xaf ⟨0,0,0,0⟩,.sl false 4 [],.int .i64 0,.bool false]:=rfl
theorem xkk:SubV (.agg [.nilS,.nilS,.nilS,.agg [.nilS,.nilS],.nilS]) (.agg [.sl false 1 [],.sl false 1 [],.sl false 1 [],.agg [.sl false 1 [],.sl false 3 []],.sl false 3 []]):=SubV.agg ⟨SubV.nil _ _,SubV.nil _ _,SubV.nil _ _,SubV.agg ⟨SubV.nil _ _,SubV.nil _ _,trivial⟩,SubV.nil _ _,trivial⟩
attribute [local irreducible] valO valQ xe2 actB xja kl xhh
theorem yku (o:Rdn.Outside) (q:Request) (ha:q.args.length≤1000):Fnc Tryz.prog 110 [xct o,reqV q] (fun x obs=>x=.tup [xct (sDo o q).1,resV (sDo o q).2.1,.int .i64 (sDo o q).2.2]∧obs=[]):=by
 cases hk:okDo o q with
 |true=>
  rw [yhz hk];obtain⟨F,A,C,H⟩:=xza hk;rcases xm2 C with c|c|c|c|c|c|c|c|c
  ·exact yho o q F A c
  ·exact yhp o q F A c (H (by rw [c];rfl))
  ·exact yhq o q F A c
  ·exact yhr o q F A c
  ·exact yhs o q F A c
  ·exact yht o q F A c
  ·exact yhu o q F A c
  ·exact ycv o q F A c
  ·exact ycw o q F A c (H (by rw [c];rfl))
 |false=>
  rw [sDo_F hk,noO_V,noR_V];refine Fnc.low ?_;have fv:=xdr o;have fa:=xds q;have fx:=xg5 q.call;have fk:=xd9 q ha;cases e1:valO o with
  |false=>
   rw [e1] at fv;refine zgo xah fun W S=>?_;refine zcd (fv) ?_;refine xc5 2 _ rfl xkk rfl ?_;refine xc5 3 (.agg [_,.sl false 4 [],_,_]) rfl (SubV.agg ⟨SubV.refl _,SubV.nil _ _,SubV.refl _,SubV.refl _,trivial⟩) rfl ?_;exact zrt xah
  |true=>
   rw [e1] at fv;cases eq:valQ q with
   |false=>
    rw [eq] at fa;refine zgo xah fun W S=>?_;refine zcd (fv) ?_;refine zcd (fa) ?_;refine xc5 2 _ rfl xkk rfl ?_;refine xc5 3 (.agg [_,.sl false 4 [],_,_]) rfl (SubV.agg ⟨SubV.refl _,SubV.nil _ _,SubV.refl _,SubV.refl _,trivial⟩) rfl ?_;exact zrt xah
   |true=>
    rw [eq] at fa;by_cases st:q.stop=1;rotate_left
    ·skip
     refine zgo xah fun W S=>?_;refine zcd (fv) ?_;refine zcd (fa) ?_;refine xc5 2 _ rfl xkk rfl ?_;refine xc5 3 (.agg [_,.sl false 4 [],_,_]) rfl (SubV.agg ⟨SubV.refl _,SubV.nil _ _,SubV.refl _,SubV.refl _,trivial⟩) rfl ?_;exact zrt xah
    cases e3:actB q.call with
    |false=>
     rw [e3] at fx;refine zgo xah fun W S=>?_;refine zcd (fv) ?_;refine zcd (fa) ?_;refine zcd (fx) ?_;refine xc5 2 _ rfl xkk rfl ?_;refine xc5 3 (.agg [_,.sl false 4 [],_,_]) rfl (SubV.agg ⟨SubV.refl _,SubV.nil _ _,SubV.refl _,SubV.refl _,trivial⟩) rfl ?_;exact zrt xah
    |true=>
     rw [e3] at fx;cases e4:xja (kl q.call) (xhh q) with
     |false=>
      rw [e4] at fk;refine zgo xah fun W S=>?_;refine zcd (fv) ?_;refine zcd (fa) ?_;refine zcd (fx) ?_;refine zcd (fk) ?_;refine xc5 2 _ rfl xkk rfl ?_;refine xc5 3 (.agg [_,.sl false 4 [],_,_]) rfl (SubV.agg ⟨SubV.refl _,SubV.nil _ _,SubV.refl _,SubV.refl _,trivial⟩) rfl ?_;exact zrt xah
     |true=>
      rw [e4] at fk;have e2:xe2 q=true:=by unfold xe2;rw [eq,e4,decT st];rfl
      have hn:¬xt5 q:=fun h=>by unfold okDo at hk;rw [e1,e2,e3,decT h] at hk;cases hk
      have hb:bufS q.call=2:=Classical.byContradiction fun h=>hn fun h2=>absurd h2 h;have hv:¬q.args[2]!.val≤16:=fun h=>hn fun _=>h;have FQ:=yb3 eq;have hl:=xe9 e2;have h3:(kl q.call).length=3:=by
       rcases xm2 e3 with c|c|c|c|c|c|c|c|c<;>rw [c] at hb⊢<;>first|(unfold kl;rfl)|(exact absurd hb (by decide))
      rw [h3] at hl;have fb:=xca q.call FQ.call.1 FQ.call.2;rw [hb] at fb;refine zgo xah fun W S=>?_;refine zcd (fv) ?_;refine zcd (fa) ?_;refine zcd (fx) ?_;refine zcd (fk) ?_;refine zcd (fb) ?_;refine xc5 2 _ rfl xkk rfl ?_;refine xc5 3 (.agg [_,.sl false 4 [],_,_]) rfl (SubV.agg ⟨SubV.refl _,SubV.nil _ _,SubV.refl _,SubV.refl _,trivial⟩) rfl ?_;exact zrt xah
end Go.Proofs.YtbgpfigkcpmnfaaGreat
namespace Go.Proofs.YtbgpfigkcpmnfaaGreat
open Go Go.RowKit Rdn Rdn.Dp
theorem FitO.setF {o:Rdn.Outside} (F:FitO o) {f:Files} (h:FitF f):FitO (setF o f):=⟨F.c,F.r,F.i,F.w,h,F.n,F.od,F.d⟩
theorem xid (l:List Int):(xcq l).1.length≤l.length:=by
 unfold xcq;split
 ·exact Nat.le_refl _
 ·rw [List.length_drop];omega
theorem ya5 (l:List (List Int)) (s n:Int):(xd0 l s n).1.length=l.length:=by
 unfold xd0;split
 ·rfl
 ·rw [List.length_set]
theorem yi6 {l:List (List Int)} {s n:Int} (h:∀x∈l,x.length≤64):∀x∈(xd0 l s n).1,x.length≤64:=by
 unfold xd0;split
 ·exact h
 ·rename_i c
  intro x hx;rcases List.mem_or_eq_of_mem_set hx with hx|rfl
  ·exact h x hx
  ·have:=h _ (xc9 (l:=l) (k:=s.toNat) (by omega))
   rw [List.length_drop];omega
theorem ya6 {l:List Output} {s:Int} {d:List Canon} (hn:l.length≤200) (ho:xho l) (hd:∀x∈l,xba x.data 16=true) (hc:xba d 16=true):(sSend l s d).1.length≤200∧xho (sSend l s d).1∧∀x∈(sSend l s d).1,xba x.data 16=true:=by
 unfold sSend;split
 ·exact⟨hn,ho,hd⟩
 ·rename_i c
  refine⟨by rw [List.length_append];simp;omega,fun j hj=>?_,fun x hx=>?_⟩
  ·rw [List.length_append] at hj
   simp only [List.length_cons,List.length_nil] at hj;by_cases e:j<l.length
   ·have:=ho j e
    rwa [show(l++[(⟨l.length,s,d⟩:Output)])[j]! =l[j]! by rw [getElem!_pos _ j (by rw [List.length_append];omega),getElem!_pos _ j e,List.getElem_append_left e]]
   ·obtain rfl:j=l.length:=by omega
    rw [show(l++[(⟨l.length,s,d⟩:Output)])[l.length]! =⟨l.length,s,d⟩ by rw [getElem!_pos _ _ (by simp),List.getElem_append_right (Nat.le_refl _)];simp];exact⟨rfl,by dsimp only;omega,by dsimp only;omega,by show d.length≤16;omega⟩
  ·rcases List.mem_append.1 hx with hx|hx
   ·exact hd x hx
   ·obtain rfl:=List.mem_singleton.1 hx
    exact hc
theorem yft {o:Rdn.Outside} {q:Request} (F:FitO o) (A:xe2 q=true):FitO (doS o q).1:=by
 have hc:=(xdn A).1.data;unfold doS;split
 ·exact F.setF (F.f.write _ _)
 split
 ·exact F.setF (F.f.read _ _)
 split
 ·exact F.setF (F.f.open _ _)
 split
 ·exact F.setF (F.f.close _)
 split
 ·exact F.setF (F.f.seek _ _)
 split
 ·exact⟨Nat.le_trans (xid _) F.c,F.r,F.i,F.w,F.f,F.n,F.od,F.d⟩
 split
 ·exact⟨F.c,Nat.le_trans (xid _) F.r,F.i,F.w,F.f,F.n,F.od,F.d⟩
 split
 ·have h:=ya6 (s:=q.args[0]!.val) F.n F.od F.d hc
  exact⟨F.c,F.r,F.i,F.w,F.f,h.1,h.2.1,h.2.2⟩
 split
 ·exact⟨F.c,F.r,by show(xd0 _ _ _).1.length≤2;rw [ya5];exact F.i,yi6 F.w,F.f,F.n,F.od,F.d⟩
 ·exact F
end Go.Proofs.YtbgpfigkcpmnfaaGreat
namespace Go.Proofs.YtbgpfigkcpmnfaaGreat
open Go Go.RowKit Rdn Rdn.Dp
theorem xea (v:Int):xcw (⟨0,v,0,0⟩:Canon)=true:=decide_eq_true (.inl ⟨.inl rfl,rfl,rfl⟩)
theorem ybh (v:Int):xcw (⟨2,v,0,0⟩:Canon)=true:=decide_eq_true (.inl ⟨.inr rfl,rfl,rfl⟩)
structure FitR (r:Rdn.Result):Prop where
 v:xcw r.value=true
 d:xba r.data 16=true
 s:r.spawn=-1
 w:r.wait=false
theorem xcn:xba [] 16=true:=rfl
theorem xmb {l:List Canon} {n:Int} (h:l.all xcw=true) (h2:(l.length:Int)≤n):xba l n=true:=by unfold xba;rw [h,decT h2];rfl
theorem xf7 {c:Canon} {d:List Canon} (ok:Bool) (h:ok=true→xcw c=true) (h2:ok=true→xba d 16=true):FitR (resB c d ok):=by
 cases ok with
 |true=>exact⟨h rfl,h2 rfl,rfl,rfl⟩
 |false=>exact⟨xea _,xcn,rfl,rfl⟩
theorem xh4 {c:Canon} {d:List Canon} {ok:Bool} (h:d=[]):(resB c d ok).data.length=0:=by
 subst h;cases ok<;>rfl
theorem xi7 {v:Int} (h0:0≤v) (h1:v≤1000):numR v≠⟨0,65535,0,0⟩:=by
 unfold numR;rw [show IntKind.u16.wrap v=v from xto h0 (by omega)];intro h;have:=congrArg Canon.val h;dsimp only at this;omega
theorem xh5 {c:Canon} {d:List Canon} {ok:Bool} (h:ok=true→c≠⟨0,65535,0,0⟩) (e:(resB c d ok).value=⟨0,65535,0,0⟩):ok=false:=by
 cases ok with
 |true=>exact absurd e (h rfl)
 |false=>rfl
theorem xth {f:Files} {h:Int} {c:List Canon} (e:(xcb f h c).2.2=false):(xcb f h c).1=f:=by
 unfold xcb at e⊢;split at e
 ·cases e
 ·rename_i n;rw [if_neg n]
theorem xwc {f:Files} {h n:Int} (e:(xda f h n).2.2=false):(xda f h n).1=f:=by
 unfold xda at e⊢;split at e
 ·cases e
 ·rename_i n;rw [if_neg n]
theorem xte {f:Files} {h:Int} (e:(xdu f h).2=false):(xdu f h).1=f:=by
 unfold xdu at e⊢;split at e
 ·cases e
 ·rename_i n;rw [if_neg n]
theorem xwe {f:Files} {h x:Int} (e:(xgl f h x).2=false):(xgl f h x).1=f:=by
 unfold xgl at e⊢;split at e
 ·cases e
 ·rename_i n;rw [if_neg n]
theorem xwb {f:Files} {k m:Int} (e:¬0≤(xes f k m).2):(xes f k m).1=f:=by
 unfold xes at e⊢;split
 ·rfl
 ·rename_i n
  rw [if_neg n] at e;split at e
  ·exact absurd (Int.natCast_nonneg _) e
  ·split at e<;>exact absurd (Int.natCast_nonneg _) e
theorem xwf {l:List Output} {s:Int} {d:List Canon} (e:(sSend l s d).2.2=false):(sSend l s d).1=l:=by
 unfold sSend at e⊢;split at e
 ·rename_i n;rw [if_pos n]
 ·cases e
theorem xwd {l:List (List Int)} {s n:Int} (e:(xd0 l s n).2.2=false):(xd0 l s n).1=l:=by
 unfold xd0 at e⊢;split at e
 ·rename_i n;rw [if_pos n]
 ·cases e
theorem yde {f:Files} (F:FitF f) {h:Int} {c:List Canon} (hc:c.length≤16):0≤(xcb f h c).2.1∧(xcb f h c).2.1≤16:=by
 unfold xcb;split
 ·rename_i n
  obtain⟨a1,a2,a3,a4,a5⟩:=F.at n.1;unfold wrn;dsimp only;omega
 ·exact⟨Int.le_refl _,by dsimp only;omega⟩
theorem yfd {l:List Canon} {P:Canon→Bool} (h:l.all P=true) {m:List Canon} (hm:∀x∈m,x∈l):m.all P=true:=List.all_eq_true.2 fun x hx=>List.all_eq_true.1 h x (hm x hx)
theorem yi4 {f:Files} (F:FitF f) {h n:Int} (hn:n≤16):xba (xda f h n).2.1 16=true:=by
 unfold xda;split
 ·rename_i c
  obtain⟨a1,a2,a3,a4,a5⟩:=F.at c.1;have hm:(dat f h)∈f.data:=by
   unfold dat;exact xc9 (by omega)
  refine xmb (yfd (F.cell _ hm) fun x hx=>List.mem_of_mem_drop (List.mem_of_mem_take hx)) ?_;have:rdn f h n≤n:=by unfold rdn;omega
  rw [List.length_take];omega
 ·exact xcn
theorem yc5 (l:List Int):(numC l).all xcw=true:=by
 refine List.all_eq_true.2 fun x hx=>?_;unfold numC at hx;obtain⟨v,-,rfl⟩:=List.mem_map.1 hx;exact xea v
theorem yi5 {l:List (List Int)} {s n:Int} (hn:n≤16):xba (xd0 l s n).2.1 16=true:=by
 unfold xd0;split
 ·exact xcn
 ·refine xmb (yc5 _) ?_
  rw [xh2,List.length_take];omega
theorem xfb {l:List Canon} (h:xba l 16=true):l.length≤16:=by
 unfold xba at h;simp only [Bool.and_eq_true,decide_eq_true_eq] at h;omega
theorem yi8 {l:List Output} {s:Int} {d:List Canon}:0≤(sSend l s d).2.1∧(sSend l s d).2.1≤16:=by
 unfold sSend;split
 ·exact⟨Int.le_refl _,by dsimp only;omega⟩
 ·dsimp only;omega
theorem sSend_pre {l:List Output} {s:Int} {d:List Canon}:l.length≤(sSend l s d).1.length∧∀j,j<l.length→(sSend l s d).1[j]! =l[j]!:=by
 unfold sSend;split
 ·exact⟨Nat.le_refl _,fun _ _=>rfl⟩
 ·refine⟨by rw [List.length_append];omega,fun j hj=>?_⟩
  rw [getElem!_pos _ j (by rw [List.length_append];omega),getElem!_pos _ j hj,List.getElem_append_left hj]
theorem xn4 {l:List Int} (h:(xcq l).2.2=true):xcw (xcq l).2.1=true:=by
 unfold xcq at h⊢;split at h
 ·cases h
 ·rename_i n
  rw [if_neg n];exact xea _
structure Keeps (o:Rdn.Outside) (q:Request):Prop where
 r:FitR (doS o q).2
 n:o.outputs.length≤(doS o q).1.outputs.length
 c:(doS o q).1.clock.length≤o.clock.length
 d:(doS o q).1.random.length≤o.random.length
 p:∀j,j<o.outputs.length→(doS o q).1.outputs[j]! =o.outputs[j]!
 f:(doS o q).2.value=⟨0,65535,0,0⟩→q.call≠6→q.call≠7→(doS o q).1=o
 b:0<(doS o q).2.data.length→bufS q.call=2
theorem xxa {o:Rdn.Outside} {q:Request} (F:FitO o) (A:xe2 q=true) (C:actB q.call=true) (H:xt5 q):Keeps o q:=by
 have hd:=(xdn A).1.data;have hl:=xfb hd;rcases xm2 C with c|c|c|c|c|c|c|c|c
 ·have e:=yjc (o:=o) c
  have n:=yde F.f (h:=q.args[0]!.val) hl;refine⟨by rw [e];exact xf7 _ (fun _=>xea _) (fun _=>xcn),by rw [e];exact Nat.le_refl _,by rw [e];exact Nat.le_refl _,by rw [e];exact Nat.le_refl _,by rw [e];exact fun _ _=>rfl,fun h _ _=>?_,fun h=>?_⟩
  ·rw [e] at h⊢
   have:=xh5 (fun _=>xi7 n.1 (by omega)) h;dsimp only;rw [xth this];rfl
  ·rw [e] at h
   have:0<0:=by have h':=xh4 (c:=numR (xcb o.files q.args[0]!.val q.data).2.1) (ok:=(xcb o.files q.args[0]!.val q.data).2.2) (rfl:([]:List Canon)=[]);dsimp only at h;omega
   omega
 ·have e:=yjd (o:=o) c
  have H2:=H (by rw [c];rfl);have d:=yi4 F.f (h:=q.args[0]!.val) H2;have n:=xfb d;refine⟨by rw [e];exact xf7 _ (fun _=>xea _) (fun _=>d),by rw [e];exact Nat.le_refl _,by rw [e];exact Nat.le_refl _,by rw [e];exact Nat.le_refl _,by rw [e];exact fun _ _=>rfl,fun h _ _=>?_,fun h=>by rw [c];rfl⟩;rw [e] at h⊢;have:=xh5 (fun _=>xi7 (by omega) (by omega)) h;dsimp only;rw [xwc this];rfl
 ·have e:=yje (o:=o) c
  refine⟨by rw [e];exact xf7 _ (fun _=>ybh _) (fun _=>xcn),by rw [e];exact Nat.le_refl _,by rw [e];exact Nat.le_refl _,by rw [e];exact Nat.le_refl _,by rw [e];exact fun _ _=>rfl,fun h _ _=>?_,fun h=>?_⟩
  ·rw [e] at h⊢
   have:=xh5 (fun _ h=>absurd (show(2:Int)=0 from congrArg Canon.tag h) (by decide)) h;dsimp only;rw [xwb (of_decide_eq_false this)];rfl
  ·rw [e] at h
   exact absurd h (by rw [xh4 rfl];omega)
 ·have e:=yjf (o:=o) c
  refine⟨by rw [e];exact xf7 _ (fun _=>xea _) (fun _=>xcn),by rw [e];exact Nat.le_refl _,by rw [e];exact Nat.le_refl _,by rw [e];exact Nat.le_refl _,by rw [e];exact fun _ _=>rfl,fun h _ _=>?_,fun h=>?_⟩
  ·rw [e] at h⊢
   have:=xh5 (fun _ h=>absurd (show(0:Int)=65535 from congrArg Canon.val h) (by decide)) h;dsimp only;rw [xte this];rfl
  ·rw [e] at h
   exact absurd h (by rw [xh4 rfl];omega)
 ·have e:=yjg (o:=o) c
  refine⟨by rw [e];exact xf7 _ (fun _=>xea _) (fun _=>xcn),by rw [e];exact Nat.le_refl _,by rw [e];exact Nat.le_refl _,by rw [e];exact Nat.le_refl _,by rw [e];exact fun _ _=>rfl,fun h _ _=>?_,fun h=>?_⟩
  ·rw [e] at h⊢
   have:=xh5 (fun _ h=>absurd (show(0:Int)=65535 from congrArg Canon.val h) (by decide)) h;dsimp only;rw [xwe this];rfl
  ·rw [e] at h
   exact absurd h (by rw [xh4 rfl];omega)
 ·have e:=yjh (o:=o) c
  refine⟨by rw [e];exact xf7 _ xn4 (fun _=>xcn),by rw [e];exact Nat.le_refl _,by rw [e];exact xid _,by rw [e];exact Nat.le_refl _,by rw [e];exact fun _ _=>rfl,fun _ h=>absurd c h,fun h=>?_⟩
  ·rw [e] at h
   exact absurd h (by rw [xh4 rfl];omega)
 ·have e:=yji (o:=o) c
  refine⟨by rw [e];exact xf7 _ xn4 (fun _=>xcn),by rw [e];exact Nat.le_refl _,by rw [e];exact Nat.le_refl _,by rw [e];exact xid _,by rw [e];exact fun _ _=>rfl,fun _ _ h=>absurd c h,fun h=>?_⟩
  ·rw [e] at h
   exact absurd h (by rw [xh4 rfl];omega)
 ·have e:=yeb (o:=o) c
  have n:=yi8 (l:=o.outputs) (s:=q.args[0]!.val) (d:=q.data);refine⟨by rw [e];exact xf7 _ (fun _=>xea _) (fun _=>xcn),by rw [e];exact sSend_pre.1,by rw [e];exact Nat.le_refl _,by rw [e];exact Nat.le_refl _,by rw [e];exact sSend_pre.2,fun h _ _=>?_,fun h=>?_⟩
  ·rw [e] at h⊢
   have:=xh5 (fun _=>xi7 n.1 (by omega)) h;dsimp only;rw [xwf this]
  ·rw [e] at h
   exact absurd h (by rw [xh4 rfl];omega)
 ·have e:=yec (o:=o) c
  have H2:=H (by rw [c];rfl);have d:=yi5 (l:=o.inputs) (s:=q.args[0]!.val) H2;have n:=xfb d;refine⟨by rw [e];exact xf7 _ (fun _=>xea _) (fun _=>d),by rw [e];exact Nat.le_refl _,by rw [e];exact Nat.le_refl _,by rw [e];exact Nat.le_refl _,by rw [e];exact fun _ _=>rfl,fun h _ _=>?_,fun h=>by rw [c];rfl⟩;rw [e] at h⊢;have:=xh5 (fun _=>xi7 (by omega) (by omega)) h;dsimp only;rw [xwd this]
end Go.Proofs.YtbgpfigkcpmnfaaGreat
