import Derived.Test.YtbgpfigkcpmnfaaGreatA8
import Derived.Test.YtbgpfigkcpmnfaaGreatA20
import Derived.Test.YtbgpfigkcpmnfaaGreatA6
import Derived.Test.YtbgpfigkcpmnfaaGreatA25
import Derived.Test.YtbgpfigkcpmnfaaGreatA14
set_option linter.unusedSimpArgs false
set_option linter.unusedVariables false
set_option maxRecDepth 100000
namespace Go.Proofs.YtbgpfigkcpmnfaaGreat
open Go Go.RowKit Rdn Rdn.Dp
theorem xa0:xcd Tryz.prog 113=some (232,Qr ([Qw 4 (.box 29 (.t 0)),Qw 6 (.box 96 (.t 2)),Qw 7 (.box 100 (.t 3)),Qc 8 (.bool false)])
 (.seq (.dreg [Qm 21 1,Qp 22 (.nilc (.t 21)),Qf 23 4 2 22,Ql 24 1 23,Qf 25 0 0 6,Ql 26 1 25,Qx 27 8 24 26,Qm 9 27] [[],[0],[0,1],[0,1,2],[],[4],[0,1,2,3,4,5],[0,1,2,3,4,5,6]])
 (.seq (.dreg [Qm 29 1,Qp 30 (.nilc (.t 29)),Qf 31 0 0 30,QL 32 2 31,Qf 33 1 1 4,Ql 34 1 33,Qf 35 0 0 7,QL 36 4 35,Qq 37 132 [(.t 32),(.t 34),(.t 36)],Qm 28 37,Qe 38 28 0,Qe 39 28 1,Qw 10 (.alloc 177 (.agg [.int .u8 0,.int .u16 0])),Qs 2 10 38,Qm 11 39] [[],[0],[0,1],[0,1,2],[],[4],[],[6],[0,1,2,3,4,5,6,7],[0,1,2,3,4,5,6,7,8],[0,1,2,3,4,5,6,7,8,9],[0,1,2,3,4,5,6,7,8,9],[],[0,1,2,3,4,5,6,7,8,9,10,12],[0,1,2,3,4,5,6,7,8,9,10,11,12,13]])
 (.seq (Qr ([Qm 40 11,Qk 41 .neq 40 0])
 (.cond (.t 41) (Qr ([Qc 8 (.bool false)])
 (.ret)) (.skip)))
 (.seq (Qr ([Qf 42 5 5 6,Ql 43 1 42,Qq 44 85 [(.t 43)],Qk 45 .eql 44 2,Qm 46 45,Q1 47 46 (.fieldA 4 1 (.t 7)),Q1 48 46 (.load false 1 (.t 47)),Q1 49 46 (.len (.t 48)),Q1 50 46 (.bin 0 .gtr (.t 49) (Qi 0)),Qu 51 46 50])
 (.cond (.t 51) (.seq (.dreg [Qf 52 6 6 6,Ql 53 1 52,Qp 54 (.idxA 4 (.t 53) (Qi 1)),Qf 55 2 2 54,Ql 56 1 55,Qf 57 6 6 6,Ql 58 1 57,Qp 59 (.idxA 4 (.t 58) (Qi 1)),Qf 60 3 3 59,Ql 61 1 60,Qw 62 (.build none [.int .i64 0,.int .i64 0] [(0,(.t 56)),(1,(.t 61))]),Qw 12 (.alloc 196 (.agg [.int .i64 0,.int .i64 0])),Qs 2 12 62] [[],[0],[0,1],[0,1,2],[0,1,2,3],[],[5],[5,6],[5,6,7],[5,6,7,8],[0,1,2,3,4,5,6,7,8,9],[],[0,1,2,3,4,5,6,7,8,9,10,11]])
 (.seq (.seq (.dreg [Qf 63 1 1 4,Ql 64 1 63,Qf 65 6 6 6,Ql 66 1 65,Qp 67 (.idxA 4 (.t 66) (Qi 1)),QL 68 4 67,Qq 69 73 [(.t 64),(.t 68)],Qp 70 (.un .not (.t 69)),Qm 71 70,Q0 72 71 (.fieldA 6 6 (.t 6)),Q0 73 71 (.load false 1 (.t 72)),Q0 74 71 (.idxA 4 (.t 73) (Qi 1)),Q0 75 71 (.fieldA 0 0 (.t 74)),Q0 76 71 (.load false 1 (.t 75)),Q0 77 71 (.bin 0 .neq (.t 76) (.c (.int .u8 1))),Qt 78 71 77] [[],[0],[],[2],[2,3],[2,3,4],[0,1,2,3,4,5],[0,1,2,3,4,5,6],[0,1,2,3,4,5,6,7],[0,1,2,3,4,5,6,7,8],[0,1,2,3,4,5,6,7,8,9],[0,1,2,3,4,5,6,7,8,9,10],[0,1,2,3,4,5,6,7,8,9,10,11],[0,1,2,3,4,5,6,7,8,9,10,11,12],[0,1,2,3,4,5,6,7,8,9,10,11,12,13],[0,1,2,3,4,5,6,7,8,9,10,11,12,13,14]])
 (.cond (.t 78) (Qr ([Qc 8 (.bool false)])
 (.ret)) (.skip)))
 (Qr ([Qf 79 4 1 7,Ql 80 1 79,Qn 81 80,Qp 82 (.mov (Qi 0))])
 (.block 0 (.loop (Qr ([Qb 83 .lss 82 81])
 (.seq (.cond (.t 83) (.skip) (.exit 0))
 (.seq (.block 1 (Qr ([Qx 84 4 80 82,QL 85 4 84,Qw 14 (.alloc 98 (.agg [.int .u8 0,.int .u16 0,.int .i64 0,.int .i64 0])),Qs 4 14 85])
 (.seq (.dreg [Qm 87 1,Qp 88 (.nilc (.t 87)),Qf 89 0 0 88,QL 90 2 89,Qf 91 1 1 4,Ql 92 1 91,QL 93 4 14,Qq 94 132 [(.t 90),(.t 92),(.t 93)],Qm 86 94,Qe 95 86 0,Qe 96 86 1,Qw 15 (.alloc 177 (.agg [.int .u8 0,.int .u16 0])),Qs 2 15 95,Qm 16 96] [[],[0],[0,1],[0,1,2],[],[4],[],[0,1,2,3,4,5,6],[0,1,2,3,4,5,6,7],[0,1,2,3,4,5,6,7,8],[0,1,2,3,4,5,6,7,8],[],[0,1,2,3,4,5,6,7,8,9,11],[0,1,2,3,4,5,6,7,8,9,10,11,12]])
 (.seq (Qr ([Qm 97 16,Qk 98 .neq 97 0,Qm 99 98,Q0 100 99 (.fieldA 1 1 (.t 4)),Q0 101 99 (.load false 1 (.t 100)),Q0 102 99 (.load true 2 (.t 12)),⟨(some 103),(some (99,false)),(.call 98 [(.t 101),(.t 102)])⟩,Q0 104 99 (.un .not (.t 103)),Qt 105 99 104])
 (.cond (.t 105) (Qr ([Qc 8 (.bool false)])
 (.ret)) (.skip)))
 (.seq (.dreg [Qm 107 1,Qp 108 (.nilc (.t 107)),Qf 109 0 0 108,QL 110 2 109,Qf 111 1 1 4,Ql 112 1 111,QL 113 2 12,Qq 114 133 [(.t 110),(.t 112),(.t 113)],Qm 106 114,Qe 115 106 0,Qe 116 106 1,Qm 17 115,Qm 18 116] [[],[0],[0,1],[0,1,2],[],[4],[],[0,1,2,3,4,5,6],[0,1,2,3,4,5,6,7],[0,1,2,3,4,5,6,7,8],[0,1,2,3,4,5,6,7,8],[0,1,2,3,4,5,6,7,8,9],[0,1,2,3,4,5,6,7,8,9,10,11]])
 (.seq (.dreg [Qm 117 1,Qp 118 (.nilc (.t 117)),Qf 119 2 1 118,Qm 120 17,QL 121 2 15,Qq 122 120 [(.t 119),(.t 120),(.t 121)]] [[],[0],[0,1],[],[],[0,1,2,3,4]])
 (.reg [Qf 123 1 1 12,Ql 124 1 123,Qk 125 .add 124 1,Qf 126 1 1 12,Qs 1 126 125])))))))
 (.reg [Qk 127 .add 82 1,Qm 82 127]))))))))) (.skip)))
 (.seq (Qr ([Qf 128 5 5 6,Ql 129 1 128,Qk 130 .eql 129 12])
 (.cond (.t 130) (.seq (Qr ([Qf 131 6 6 6,Ql 132 1 131,Qp 133 (.idxA 4 (.t 132) (Qi 0)),Qf 134 1 1 133,Ql 135 1 134,Qp 136 (.conv .i64 (.t 135)),Qk 137 .gtr 136 255,Qm 138 137,Q0 139 138 (.fieldA 6 6 (.t 6)),Q0 140 138 (.load false 1 (.t 139)),Q0 141 138 (.idxA 4 (.t 140) (Qi 0)),Q0 142 138 (.fieldA 0 0 (.t 141)),Q0 143 138 (.load false 1 (.t 142)),Q0 144 138 (.bin 0 .neq (.t 143) (.c (.int .u8 0))),Qt 145 138 144])
 (.cond (.t 145) (Qr ([Qc 8 (.bool false)])
 (.ret)) (.skip)))
 (.reg [Qm 146 9,Qf 147 6 6 6,Ql 148 1 147,Qp 149 (.idxA 4 (.t 148) (Qi 0)),Qf 150 1 1 149,Ql 151 1 150,Qp 152 (.conv .i64 (.t 151)),Qp 153 (.nilc (.t 146)),Qf 154 4 4 153,Qs 1 154 152])) (.skip)))
 (.seq (Qr ([Qf 155 5 5 6,Ql 156 1 155,Qk 157 .eql 156 10,Qm 158 157,Q1 159 158 (.fieldA 5 2 (.t 7)),Q1 160 158 (.load false 1 (.t 159)),Q1 161 158 (.bin 0 .geq (.t 160) (Qi 0)),Qu 162 158 161])
 (.cond (.t 162) (.seq (.dreg [Qm 164 1,Qp 165 (.nilc (.t 164)),Qf 166 0 0 165,QL 167 2 166,Qf 168 1 1 4,Ql 169 1 168,Qf 170 6 6 6,Ql 171 1 170,Qp 172 (.idxA 4 (.t 171) (Qi 1)),QL 173 4 172,Qq 174 132 [(.t 167),(.t 169),(.t 173)],Qm 163 174,Qe 175 163 0,Qe 176 163 1,Qw 19 (.alloc 177 (.agg [.int .u8 0,.int .u16 0])),Qs 2 19 175,Qm 20 176] [[],[0],[0,1],[0,1,2],[],[4],[],[6],[6,7],[6,7,8],[0,1,2,3,4,5,6,7,8,9],[0,1,2,3,4,5,6,7,8,9,10],[0,1,2,3,4,5,6,7,8,9,10,11],[0,1,2,3,4,5,6,7,8,9,10,11],[],[0,1,2,3,4,5,6,7,8,9,10,11,12,14],[0,1,2,3,4,5,6,7,8,9,10,11,12,13,14,15]])
 (.seq (.seq (.dreg [Qm 177 20,Qk 178 .neq 177 0,Qm 179 178,Q0 180 179 (.mov (.t 1)),Q0 181 179 (.nilc (.t 180)),Q0 182 179 (.fieldA 4 2 (.t 181)),Q0 183 179 (.load false 1 (.t 182)),Q0 184 179 (.fieldA 5 2 (.t 7)),Q0 185 179 (.load false 1 (.t 184)),Q0 186 179 (.idxA 8 (.t 183) (.t 185)),Q0 187 179 (.fieldA 0 0 (.t 186)),Q0 188 179 (.load false 1 (.t 187)),Q0 189 179 (.bin 0 .neq (.t 188) (Qi 0)),Qt 190 179 189,Qm 191 190,Q0 192 191 (.fieldA 6 6 (.t 6)),Q0 193 191 (.load false 1 (.t 192)),Q0 194 191 (.idxA 4 (.t 193) (Qi 0)),Q0 195 191 (.fieldA 1 1 (.t 194)),Q0 196 191 (.load false 1 (.t 195)),Q0 197 191 (.conv .i64 (.t 196)),Q0 198 191 (.bin 0 .gtr (.t 197) (Qi 255)),Qt 199 191 198,Qm 200 199,Q0 201 200 (.fieldA 6 6 (.t 6)),Q0 202 200 (.load false 1 (.t 201)),Q0 203 200 (.idxA 4 (.t 202) (Qi 0)),Q0 204 200 (.fieldA 0 0 (.t 203)),Q0 205 200 (.load false 1 (.t 204)),Q0 206 200 (.bin 0 .neq (.t 205) (.c (.int .u8 0))),Qt 207 200 206] [[],[0],[0,1],[0,1,2],[0,1,2,3],[0,1,2,3,4],[0,1,2,3,4,5],[0,1,2],[0,1,2,7],[0,1,2,3,4,5,6,7,8],[0,1,2,3,4,5,6,7,8,9],[0,1,2,3,4,5,6,7,8,9,10],[0,1,2,3,4,5,6,7,8,9,10,11],[0,1,2,3,4,5,6,7,8,9,10,11,12],[0,1,2,3,4,5,6,7,8,9,10,11,12,13],[0,1,2,3,4,5,6,7,8,9,10,11,12,13,14],[0,1,2,3,4,5,6,7,8,9,10,11,12,13,14,15],[0,1,2,3,4,5,6,7,8,9,10,11,12,13,14,15,16],[0,1,2,3,4,5,6,7,8,9,10,11,12,13,14,15,16,17],[0,1,2,3,4,5,6,7,8,9,10,11,12,13,14,15,16,17,18],[0,1,2,3,4,5,6,7,8,9,10,11,12,13,14,15,16,17,18,19],[0,1,2,3,4,5,6,7,8,9,10,11,12,13,14,15,16,17,18,19,20],[0,1,2,3,4,5,6,7,8,9,10,11,12,13,14,15,16,17,18,19,20,21],[0,1,2,3,4,5,6,7,8,9,10,11,12,13,14,15,16,17,18,19,20,21,22],[0,1,2,3,4,5,6,7,8,9,10,11,12,13,14,15,16,17,18,19,20,21,22,23],[0,1,2,3,4,5,6,7,8,9,10,11,12,13,14,15,16,17,18,19,20,21,22,23,24],[0,1,2,3,4,5,6,7,8,9,10,11,12,13,14,15,16,17,18,19,20,21,22,23,24,25],[0,1,2,3,4,5,6,7,8,9,10,11,12,13,14,15,16,17,18,19,20,21,22,23,24,25,26],[0,1,2,3,4,5,6,7,8,9,10,11,12,13,14,15,16,17,18,19,20,21,22,23,24,25,26,27],[0,1,2,3,4,5,6,7,8,9,10,11,12,13,14,15,16,17,18,19,20,21,22,23,24,25,26,27,28],[0,1,2,3,4,5,6,7,8,9,10,11,12,13,14,15,16,17,18,19,20,21,22,23,24,25,26,27,28,29]])
 (.cond (.t 207) (Qr ([Qc 8 (.bool false)])
 (.ret)) (.skip)))
 (.dreg [Qm 208 1,Qp 209 (.nilc (.t 208)),Qf 210 4 2 209,Ql 211 1 210,Qf 212 5 2 7,Ql 213 1 212,Qf 214 6 6 6,Ql 215 1 214,Qp 216 (.idxA 4 (.t 215) (Qi 0)),Qf 217 1 1 216,Ql 218 1 217,Qp 219 (.conv .i64 (.t 218)),QL 220 2 19,Qq 221 134 [(.t 219),(.t 220)],Qx 222 8 211 213,Qs 8 222 221] [[],[0],[0,1],[0,1,2],[],[4],[],[6],[6,7],[6,7,8],[6,7,8,9],[6,7,8,9,10],[],[6,7,8,9,10,11,12],[0,1,2,3,4,5,6,7,8,9,10,11,12,13],[0,1,2,3,4,5,6,7,8,9,10,11,12,13,14]]))) (.skip)))
 (.seq (.dreg [Qm 223 9,Qp 224 (.nilc (.t 223)),Qf 225 1 1 224,Ql 226 1 225,Qm 227 9,QL 228 2 10,Qp 229 (.idxA 2 (.t 226) (Qi 0)),Qs 2 229 228,Qp 230 (.nilc (.t 227)),Qf 231 0 0 230,⟨none,none,(.m (.store 1 (.t 231) (Qi 1)))⟩] [[],[0],[0,1],[0,1,2],[],[],[0,1,2,3,5],[0,1,2,3,5,6],[0,1,2,3,4,5,6,7],[0,1,2,3,4,5,6,7,8],[0,1,2,3,4,5,6,7,8,9]])
 (Qr ([Qc 8 (.bool true)])
 (.ret))))))))),[.mov (.t 8)]):=by kernel_rfl
theorem xpq (pc:Int) (c:Cell):Fnc Tryz.prog 134 [.int .i64 pc,xau c] (fun x obs=>x=thrO 0 (thrN pc c)∧obs=[rowN (thrN pc c).regs]):=by
 refine zcf Tryz.prog 134 fun mz=>?_;have fe:=yl8;rw [show thrN pc c=newT pc c from rfl];refine zgo mz fun W S=>?_;refine zcx (fe) ?_;refine ret mz [2] ?_;exact zfn
structure PutOk (p:PProg) (m:PMach) (t:Nat) (q:Request) (x:Rdn.Result):Prop where
 st:m.thr[t]!.state=2
 c0:0≤q.call
 c1:q.call≤15
 al:q.args.length=(kl q.call).length
 sp:-1≤x.spawn∧x.spawn<4
 xd:x.data.length≤16
 rd:∀c∈x.data,rngC c
 ra:∀c∈q.args,rngC c
theorem ybw {c:Int} (h:c=12):(kl c).length=1:=by subst h;rfl
theorem ybv {c:Int} (h:c=10):(kl c).length=2:=by subst h;rfl
theorem xyj {c:Int} (h:bufS c=2):(kl c).length=3:=by
 unfold bufS at h;split at h
 ·cases h
 ·split at h
  ·rename_i e
   rcases e with rfl|rfl<;>rfl
  ·cases h
theorem xnj {c:Int} (h:bufS c=2):c=2∨c=14:=by
 unfold bufS at h;split at h
 ·cases h
 ·split at h
  ·assumption
  ·cases h
theorem xkp {c:Int} (h:c=10∨c=12):bufS c=0:=by rcases h with rfl|rfl<;>rfl
theorem xpd {p:PProg} {m:PMach} {t:Nat} {q:Request} {x:Rdn.Result} (hM:putM p m q x=(m.mem,true)) (v0:(rawS m.lay p.sizes x.value).2=0):putS p m t q x=if ¬putC p m q x then(m,false) else(⟨m.lay,m.mem,(putN p m q x).set t (putT q m.thr[t]! (rawS m.lay p.sizes x.value).1)⟩,true):=by
 unfold putS;rw [hM,if_neg (not_not_intro v0)];dsimp only;rw [if_neg (fun e:true=false=>by cases e)]
def putE (lay:PLay) (thr:List PThr) (t:Nat) (y:PThr) (R:PMem×Bool):PMach×Bool:=if R.2=false then(⟨lay,R.1,thr⟩,false) else(⟨lay,R.1,thr.set t y⟩,true)
theorem xez {lay:PLay} {thr:List PThr} {t:Nat} {y:PThr} {g:PMem}:putE lay thr t y (g,false)=(⟨lay,g,thr⟩,false):=rfl
theorem xuw {lay:PLay} {thr:List PThr} {t:Nat} {y:PThr} {g:PMem}:putE lay thr t y (g,true)=(⟨lay,g,thr.set t y⟩,true):=rfl
theorem xlt {p:PProg} {m:PMach} {t:Nat} {q:Request} {x:Rdn.Result} (h:bufS q.call=2) (v0:(rawS m.lay p.sizes x.value).2=0):putS p m t q x=putE m.lay m.thr t (xnn m.thr[t]! (rawS m.lay p.sizes x.value).1) (putM p m q x):=by
 have hc:=xnj h;have e12:¬q.call=12:=by omega
 have e10:¬spnB q x:=fun e=>by have:=e.1;omega
 unfold putS putE;rw [if_neg (not_not_intro v0)];split
 ·rfl
 rw [if_neg (not_not_intro ⟨fun e=>absurd e e12,fun e=>absurd e e10⟩)];simp only [putN,if_neg e10,putT,if_neg e12]
theorem xls {p:PProg} {m:PMach} {q:Request} {x:Rdn.Result} (h:bufS q.call=2∧x.data≠[]):putM p m q x=if ¬xgi p.sizes q.args[1]!∨q.args[1]!.tag≠1 then(m.mem,false) else putL m.lay p.sizes q.args[1]!.region q.args[1]!.offset x.data m.mem:=if_pos h
theorem xpc {p:PProg} {m:PMach} {q:Request} {x:Rdn.Result} (h:¬(bufS q.call=2∧x.data≠[])):putM p m q x=(m.mem,true):=if_neg h
theorem zpq {P Q R:Prop} (r:R) (k:P) (h:Zb R→Zb P→Q:=by
 intro zr zk;have hq:=zr.h;simp only [reqV,resV,hq,PMach.setT,putT,xnn,setR,thrN,obM,rowC,xbr,thrO,List.getElem!_cons_zero,List.getElem!_cons_succ,List.set_cons_zero,List.set_cons_succ];exact zk.h):Q:=h ⟨r⟩ ⟨k⟩
theorem zpr {P Q R T:Prop} (r:R) (t:T) (k:P) (h:Zb R→Zb T→Zb P→Q:=by
 intro zr zt zk;have hq:=zr.h;have hsp:=zt.h;simp only [reqV,resV,hq,hsp,PMach.setT,putT,xnn,setR,thrN,obM,rowC,xbr,thrO,List.getElem!_cons_zero,List.getElem!_cons_succ,List.set_cons_zero,List.set_cons_succ];exact zk.h):Q:=h ⟨r⟩ ⟨t⟩ ⟨k⟩
theorem zp3 {R F G H Q:Prop} (r:R) (f:F) (g:G) (i:H) (h:Zb R→Zb F→Zb G→Zb H→Q:=by
 intro zr zf zg zi;refine zqi zr.h fun W lent S=>?_;refine zst ?_;refine zcd zf.h ?_;refine zcd zg.h ?_;refine zcd zi.h ?_;refine xag 12 zr.h ?_;exact zfn):Q:=h ⟨r⟩ ⟨f⟩ ⟨g⟩ ⟨i⟩
end Go.Proofs.YtbgpfigkcpmnfaaGreat
