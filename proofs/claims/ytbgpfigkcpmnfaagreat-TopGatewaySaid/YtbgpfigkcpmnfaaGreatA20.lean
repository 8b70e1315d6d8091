import Derived.Test.YtbgpfigkcpmnfaaGreatA8
import Derived.Test.YtbgpfigkcpmnfaaGreatA18
import Derived.Test.YtbgpfigkcpmnfaaGreatA6
import Derived.Test.YtbgpfigkcpmnfaaGreatA19
import Derived.Test.YtbgpfigkcpmnfaaGreatA11
import Derived.Test.YtbgpfigkcpmnfaaGreatA10
set_option linter.unusedSimpArgs false
set_option linter.unusedVariables false
set_option maxHeartbeats 64000000
set_option maxRecDepth 100000
namespace Go.Proofs.YtbgpfigkcpmnfaaGreat
open Go Go.RowKit Rdn Rdn.Dp
abbrev thrO (r:Nat) (x:PThr):V:=.agg [.int .i64 x.state,.own r 0,.int .i64 x.pc,.int .i64 x.count,.int .i64 x.handler,.int .i64 x.saved,.int .i64 x.trap,.int .u16 x.code]
abbrev obM (m:PMach):List Ob:=[⟨.box true 39,true,0,.agg [layV false m.lay,.agg [.own 1 0,.own 2 0],.own 3 0]⟩,rowC m.mem.cells,⟨.rows true 209,true,0,.arr 3 [xbr 4 m.mem.lines[0]!,xbr 5 m.mem.lines[1]!,xbr 6 m.mem.lines[2]!,xbr 7 m.mem.lines[3]!]⟩,⟨.rows true 148,true,0,.arr 8 [thrO 8 m.thr[0]!,thrO 9 m.thr[1]!,thrO 10 m.thr[2]!,thrO 11 m.thr[3]!]⟩,rowC m.mem.lines[0]!.cells,rowC m.mem.lines[1]!.cells,rowC m.mem.lines[2]!.cells,rowC m.mem.lines[3]!.cells,rowC m.thr[0]!.regs,rowC m.thr[1]!.regs,rowC m.thr[2]!.regs,rowC m.thr[3]!.regs]
abbrev obFt (m:PMem):List Ob:=[rowC m.cells,⟨.rows true 209,true,0,.arr 3 [xbr 3 m.lines[0]!,xbr 4 m.lines[1]!,xbr 5 m.lines[2]!,xbr 6 m.lines[3]!]⟩,rowC m.lines[0]!.cells,rowC m.lines[1]!.cells,rowC m.lines[2]!.cells,rowC m.lines[3]!.cells]
theorem xbj (m:PMach) (hn:m.thr.length=4) (t:Nat) (ht:t<4) (why:Int):FncI Tryz.prog 117 (obM m) [.ptr 3 0 [t] (8*t),.int .i64 why] (fun x ob=>x=.int .i64 2∧ob=obM (m.setT t (xfm m.thr[t]! why))):=by
 refine zcf Tryz.prog 117 fun mz=>?_;obtain⟨lay,mem,thr⟩:=m;obtain⟨x0,x1,x2,x3,rfl⟩:=four hn;have hi:t=0∨t=1∨t=2∨t=3:=by omega
 rcases hi with rfl|rfl|rfl|rfl
 all_goals
  simp only [obM,rowC,thrO,xbr,PMach.setT,xfm,List.getElem!_cons_zero,List.getElem!_cons_succ,List.set_cons_zero,List.set_cons_succ];refine zqi mz fun W lent S=>?_;refine zst ?_;refine xag 12 mz ?_;exact zfn
theorem zpm {P Q:Prop} (k:P) (h:Zb P→Q:=by
 intro zk;simp only [PMach.setT,xfm,setR,obM,rowC,xbr,thrO,List.getElem!_cons_zero,List.getElem!_cons_succ,List.set_cons_zero,List.set_cons_succ];exact zk.h):Q:=h ⟨k⟩
theorem zpt {P Q:Prop} (k:P) (h:Zb P→Q:=by
 intro zk;have y:=zk.h;simp only [obM,rowC,thrO,xbr,PMach.setT,xfm,List.getElem!_cons_zero,List.getElem!_cons_succ,List.set_cons_zero,List.set_cons_succ] at y;exact y):Q:=h ⟨k⟩
theorem xa3:xcd Tryz.prog 101=some (284,Qr ([Qw 3 (.box 29 (.t 0)),Qp 6 (.mov (Qi 0))])
 (Qr ([Qm 17 1,Qp 18 (.nilc (.t 17)),Qf 19 4 2 18,Ql 20 1 19,Qm 21 2,Qx 22 8 20 21,Qm 7 22])
 (.seq (.seq (.dreg [Qm 23 7,Qp 24 (.nilc (.t 23)),Qf 25 2 2 24,Ql 26 1 25,Qf 27 0 0 3,Ql 28 1 27,Qn 29 28,Qb 30 .geq 26 29] [[],[0],[0,1],[0,1,2],[],[4],[4,5],[0,1,2,3,4,5,6]])
 (.cond (.t 30) (Qr ([Qm 31 7,Qq 32 117 [(.t 31),(Qi 2)],Qm 6 32])
 (.ret)) (.skip)))
 (.seq (.dreg [Qf 33 0 0 3,Ql 34 1 33,Qm 35 7,Qp 36 (.nilc (.t 35)),Qf 37 2 2 36,Ql 38 1 37,Qx 39 5 34 38,QL 40 5 39,Qw 8 (.alloc 124 (.agg [.int .i64 0,.int .i64 0,.int .i64 0,.int .i64 0,.int .i64 0])),Qs 5 8 40] [[],[0],[],[2],[2,3],[2,3,4],[0,1,2,3,4,5],[0,1,2,3,4,5,6],[],[0,1,2,3,4,5,6,7,8]])
 (Qr ([Qm 41 7,Qp 42 (.nilc (.t 41)),Qf 43 2 2 42,Ql 44 1 43,Qk 45 .add 44 1,Qm 9 45])
 (.seq (.dreg [Qm 46 7,Qp 47 (.nilc (.t 46)),Qf 48 1 1 47,Ql 49 1 48,Qf 50 1 1 8,Ql 51 1 50,Qx 52 2 49 51,QL 53 2 52,Qm 54 7,Qp 55 (.nilc (.t 54)),Qf 56 1 1 55,Ql 57 1 56,Qf 58 2 2 8,Ql 59 1 58,Qx 60 2 57 59,QL 61 2 60,Qw 10 (.alloc 177 (.agg [.int .u8 0,.int .u16 0])),Qw 11 (.alloc 177 (.agg [.int .u8 0,.int .u16 0])),Qs 2 10 53,Qs 2 11 61] [[],[0],[0,1],[0,1,2],[],[4],[0,1,2,3,4,5],[0,1,2,3,4,5,6],[],[8],[8,9],[8,9,10],[],[12],[8,9,10,11,12,13],[8,9,10,11,12,13,14],[],[],[0,1,2,3,4,5,6,7,16,17],[0,1,2,3,4,5,6,7,8,9,10,11,12,13,14,15,16,17,18]])
 (.seq (Qr ([Qf 62 0 0 8,Ql 63 1 62])
 (.block 0 (Qr ([Qk 99 .eql 63 0,Qm 98 99])
 (.cond (.t 98) (.skip) (Qr ([Qk 101 .eql 63 1,Qm 100 101])
 (.cond (.t 100) (.dreg [Qm 102 7,Qp 103 (.nilc (.t 102)),Qf 104 1 1 103,Ql 105 1 104,Qf 106 1 1 8,Ql 107 1 106,Qf 108 4 4 8,Ql 109 1 108,Qp 110 (.conv .u16 (.t 109)),Qw 111 (.build none [.int .u8 0,.int .u16 0] [(1,(.t 110))]),Qx 112 2 105 107,Qs 2 112 111] [[],[0],[0,1],[0,1,2],[],[4],[],[6],[6,7],[6,7,8],[0,1,2,3,4,5,6,7,8,9],[0,1,2,3,4,5,6,7,8,9,10]]) (Qr ([Qk 114 .eql 63 2,Qm 113 114])
 (.cond (.t 113) (.dreg [Qm 115 7,Qp 116 (.nilc (.t 115)),Qf 117 1 1 116,Ql 118 1 117,Qf 119 1 1 8,Ql 120 1 119,QL 121 2 11,Qx 122 2 118 120,Qs 2 122 121] [[],[0],[0,1],[0,1,2],[],[4],[],[0,1,2,3,4,5,6],[0,1,2,3,4,5,6,7]]) (Qr ([Qk 124 .eql 63 15,Qm 123 124])
 (.cond (.t 123) (.dreg [Qm 125 7,Qp 126 (.nilc (.t 125)),Qf 127 1 1 126,Ql 128 1 127,Qf 129 1 1 8,Ql 130 1 129,Qm 131 1,Qp 132 (.nilc (.t 131)),Qf 133 0 0 132,Qf 134 0 0 133,Ql 135 1 134,Qf 136 4 4 8,Ql 137 1 136,Qx 138 1 135 137,Ql 139 1 138,Qp 140 (.conv .u16 (.t 139)),Qw 141 (.build none [.int .u8 0,.int .u16 0] [(0,(.c (.int .u8 1))),(1,(.t 140))]),Qx 142 2 128 130,Qs 2 142 141] [[],[0],[0,1],[0,1,2],[],[4],[],[6],[6,7],[6,7,8],[6,7,8,9],[],[11],[6,7,8,9,10,11,12],[6,7,8,9,10,11,12,13],[6,7,8,9,10,11,12,13,14],[6,7,8,9,10,11,12,13,14,15],[0,1,2,3,4,5,6,7,8,9,10,11,12,13,14,15,16],[0,1,2,3,4,5,6,7,8,9,10,11,12,13,14,15,16,17]]) (.seq (Qr ([Qk 144 .eql 63 16,Qm 143 144])
 (.cond (.t 143) (.skip) (.reg [Qk 145 .eql 63 17,Qm 143 145])))
 (.cond (.t 143) (Qr ([QL 146 2 11,Qw 12 (.alloc 177 (.agg [.int .u8 0,.int .u16 0])),Qs 2 12 146])
 (.seq (Qr ([Qf 147 0 0 8,Ql 148 1 147,Qk 149 .eql 148 17])
 (.cond (.t 149) (.reg [QL 150 2 10,Qs 2 12 150]) (.skip)))
 (.seq (.dreg [Qm 152 1,Qp 153 (.nilc (.t 152)),Qf 154 0 0 153,QL 155 2 154,Qf 156 1 1 3,Ql 157 1 156,QL 158 2 12,Qf 159 4 4 8,Ql 160 1 159,Qp 161 (.conv .u16 (.t 160)),Qq 162 118 [(.t 155),(.t 157),(.t 158),(.t 161),(.c (.bool false))],Qm 151 162,Qe 163 151 0,Qe 164 151 1,Qw 13 (.alloc 177 (.agg [.int .u8 0,.int .u16 0])),Qs 2 13 163,Qm 14 164] [[],[0],[0,1],[0,1,2],[],[4],[],[],[7],[7,8],[0,1,2,3,4,5,6,7,8,9],[0,1,2,3,4,5,6,7,8,9,10],[0,1,2,3,4,5,6,7,8,9,10,11],[0,1,2,3,4,5,6,7,8,9,10,11],[],[0,1,2,3,4,5,6,7,8,9,10,11,12,14],[0,1,2,3,4,5,6,7,8,9,10,11,12,13,14,15]])
 (.seq (Qr ([Qm 165 14,Qk 166 .neq 165 0])
 (.cond (.t 166) (Qr ([Qm 167 7,Qm 168 14,Qq 169 117 [(.t 167),(.t 168)],Qm 6 169])
 (.ret)) (.skip)))
 (Qr ([Qf 170 0 0 8,Ql 171 1 170,Qk 172 .eql 171 16])
 (.cond (.t 172) (.dreg [Qm 173 7,Qp 174 (.nilc (.t 173)),Qf 175 1 1 174,Ql 176 1 175,Qf 177 1 1 8,Ql 178 1 177,Qm 179 1,Qp 180 (.nilc (.t 179)),Qf 181 2 1 180,Qf 182 1 1 13,Ql 183 1 182,Qp 184 (.conv .i64 (.t 183)),Qq 185 119 [(.t 181),(.t 184)],Qx 186 2 176 178,Qs 2 186 185] [[],[0],[0,1],[0,1,2],[],[4],[],[6],[6,7],[],[9],[9,10],[6,7,8,9,10,11],[0,1,2,3,4,5,6,7,8,9,10,11,12],[0,1,2,3,4,5,6,7,8,9,10,11,12,13]]) (.dreg [Qm 187 1,Qp 188 (.nilc (.t 187)),Qf 189 2 1 188,Qf 190 1 1 13,Ql 191 1 190,Qp 192 (.conv .i64 (.t 191)),QL 193 2 11,Qq 194 120 [(.t 189),(.t 192),(.t 193)]] [[],[0],[0,1],[],[3],[3,4],[],[0,1,2,3,4,5,6]]))))))) (Qr ([Qk 196 .eql 63 18,Qm 195 196])
 (.cond (.t 195) (.reg [Qf 197 4 4 8,Ql 198 1 197,Qm 9 198]) (.seq (Qr ([Qk 200 .eql 63 19,Qm 199 200])
 (.cond (.t 199) (.skip) (.reg [Qk 201 .eql 63 20,Qm 199 201])))
 (.cond (.t 199) (.seq (Qr ([Qf 202 0 0 10,Ql 203 1 202,Qp 204 (.bin 0 .neq (.t 203) (.c (.int .u8 0)))])
 (.cond (.t 204) (Qr ([Qm 205 7,Qq 206 117 [(.t 205),(Qi 3)],Qm 6 206])
 (.ret)) (.skip)))
 (Qr ([Qf 207 1 1 10,Ql 208 1 207,Qp 209 (.bin 0 .eql (.t 208) (.c (.int .u16 0))),Qf 210 0 0 8,Ql 211 1 210,Qk 212 .eql 211 19,Qp 213 (.bin 1 .eql (.t 209) (.t 212))])
 (.cond (.t 213) (.reg [Qf 214 4 4 8,Ql 215 1 214,Qm 9 215]) (.skip)))) (Qr ([Qk 217 .eql 63 21,Qm 216 217])
 (.cond (.t 216) (.seq (.dreg [Qm 218 7,Qp 219 (.nilc (.t 218)),Qf 220 1 1 219,Ql 221 1 220,Qf 222 1 1 8,Ql 223 1 222,Qm 224 9,Qp 225 (.conv .u16 (.t 224)),Qw 226 (.build none [.int .u8 0,.int .u16 0] [(1,(.t 225))]),Qx 227 2 221 223,Qs 2 227 226] [[],[0],[0,1],[0,1,2],[],[4],[],[6],[6,7],[0,1,2,3,4,5,6,7,8],[0,1,2,3,4,5,6,7,8,9]])
 (.reg [Qf 228 4 4 8,Ql 229 1 228,Qm 9 229])) (Qr ([Qk 231 .eql 63 22,Qm 230 231])
 (.cond (.t 230) (.seq (Qr ([Qf 232 0 0 10,Ql 233 1 232,Qp 234 (.bin 0 .neq (.t 233) (.c (.int .u8 0)))])
 (.cond (.t 234) (Qr ([Qm 235 7,Qq 236 117 [(.t 235),(Qi 3)],Qm 6 236])
 (.ret)) (.skip)))
 (.seq (Qr ([Qf 237 1 1 10,Ql 238 1 237,Qp 239 (.bin 0 .gtr (.t 238) (.c (.int .u16 255)))])
 (.cond (.t 239) (Qr ([Qm 240 7,Qq 241 117 [(.t 240),(Qi 2)],Qm 6 241])
 (.ret)) (.skip)))
 (.reg [Qf 242 1 1 10,Ql 243 1 242,Qp 244 (.conv .i64 (.t 243)),Qm 9 244]))) (Qr ([Qk 246 .eql 63 24,Qm 245 246])
 (.cond (.t 245) (.seq (Qr ([Qm 247 7,Qp 248 (.nilc (.t 247)),Qf 249 5 5 248,Ql 250 1 249,Qk 251 .eql 250 (-1)])
 (.cond (.t 251) (Qr ([Qm 252 7,Qq 253 117 [(.t 252),(Qi 1)],Qm 6 253])
 (.ret)) (.skip)))
 (.reg [Qm 254 7,Qm 255 7,Qp 256 (.nilc (.t 255)),Qf 257 5 5 256,Ql 258 1 257,Qm 9 258,Qp 259 (.nilc (.t 254)),Qf 260 5 5 259,⟨none,none,(.m (.store 1 (.t 260) (Qi (-1))))⟩])) (Qr ([Qk 262 .eql 63 23,Qm 261 262])
 (.cond (.t 261) (Qr ([Qm 263 7,Qm 264 7,Qm 265 9,Qp 266 (.nilc (.t 263)),Qf 267 0 0 266,⟨none,none,(.m (.store 1 (.t 267) (Qi 2)))⟩,Qp 268 (.nilc (.t 264)),Qf 269 2 2 268,Qs 1 269 265])
 (Qr ([Qp 6 (.mov (Qi 1))])
 (.ret))) (.seq (.dreg [Qm 65 1,Qp 66 (.nilc (.t 65)),Qf 67 0 0 66,QL 68 2 67,Qf 69 1 1 3,Ql 70 1 69,Qf 71 0 0 8,Ql 72 1 71,QL 73 2 11,Qm 74 7,Qp 75 (.nilc (.t 74)),Qf 76 1 1 75,Ql 77 1 76,Qf 78 3 3 8,Ql 79 1 78,Qx 80 2 77 79,QL 81 2 80,Qq 82 121 [(.t 68),(.t 70),(.t 72),(.t 73),(.t 81)],Qm 64 82,Qe 83 64 0,Qe 84 64 1,Qw 15 (.alloc 177 (.agg [.int .u8 0,.int .u16 0])),Qs 2 15 83,Qm 16 84] [[],[0],[0,1],[0,1,2],[],[4],[],[6],[],[],[9],[9,10],[9,10,11],[],[13],[9,10,11,12,13,14],[9,10,11,12,13,14,15],[0,1,2,3,4,5,6,7,8,9,10,11,12,13,14,15,16],[0,1,2,3,4,5,6,7,8,9,10,11,12,13,14,15,16,17],[0,1,2,3,4,5,6,7,8,9,10,11,12,13,14,15,16,17,18],[0,1,2,3,4,5,6,7,8,9,10,11,12,13,14,15,16,17,18],[],[0,1,2,3,4,5,6,7,8,9,10,11,12,13,14,15,16,17,18,19,21],[0,1,2,3,4,5,6,7,8,9,10,11,12,13,14,15,16,17,18,19,20,21,22]])
 (.seq (Qr ([Qm 85 16,Qk 86 .neq 85 0])
 (.cond (.t 86) (Qr ([Qm 87 7,Qm 88 16,Qq 89 117 [(.t 87),(.t 88)],Qm 6 89])
 (.ret)) (.skip)))
 (.dreg [Qm 90 7,Qp 91 (.nilc (.t 90)),Qf 92 1 1 91,Ql 93 1 92,Qf 94 1 1 8,Ql 95 1 94,QL 96 2 15,Qx 97 2 93 95,Qs 2 97 96] [[],[0],[0,1],[0,1,2],[],[4],[],[0,1,2,3,4,5,6],[0,1,2,3,4,5,6,7]])))))))))))))))))))))))))))
 (Qr ([Qm 270 7,Qm 271 9,Qp 272 (.nilc (.t 270)),Qf 273 2 2 272,Qs 1 273 271])
 (.seq (Qr ([Qf 274 0 0 8,Ql 275 1 274,Qq 276 122 [(.t 275)]])
 (.cond (.t 276) (.reg [Qm 277 7,Qp 278 (.nilc (.t 277)),Qf 279 3 3 278,Ql 280 1 279,Qk 281 .add 280 1,Qp 282 (.nilc (.t 277)),Qf 283 3 3 282,Qs 1 283 281]) (.skip)))
 (Qr ([Qp 6 (.mov (Qi (-1)))])
 (.ret)))))))))),[.mov (.t 6)]):=by kernel_rfl
theorem zo1 {R F Q:Prop} (r:R) (f:F) (h:Zb R→Zb F→Q:=by
 intro zr zf;refine zpm ?_;refine zqi zr.h fun W lent S=>?_;refine zst ?_;refine zcd zf.h ?_;exact zri zr.h):Q:=h ⟨r⟩ ⟨f⟩
theorem zo2 {R F Q:Prop} (r:R) (f:F) (h:Zb R→Zb F→Q:=by
 intro zr zf;refine zpm ?_;have ft:=zpt zf.h;refine zqi zr.h fun W lent S=>?_;refine zst ?_;refine xc2 0 [1,2,3,4,5,6,7,8,9,10,11] (ft) ?_;refine zev ?_;refine zst ?_;refine xa7 true [0,1,2,3,4,5,6,7,8,9,10,11] [6] (by simp only [go_sem]) (by simp only [go_sem]) ?_;simp only [go_sem];exact zri zr.h):Q:=h ⟨r⟩ ⟨f⟩
end Go.Proofs.YtbgpfigkcpmnfaaGreat
