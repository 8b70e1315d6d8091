import Derived.Test.YtbgpfigkcpmnfaaGreatA8
import Derived.Test.YtbgpfigkcpmnfaaGreatA43
import Derived.Test.YtbgpfigkcpmnfaaGreatA6
set_option linter.unusedSimpArgs false
set_option linter.unusedVariables false
set_option maxHeartbeats 64000000
set_option maxRecDepth 100000
namespace Go.Proofs.YtbgpfigkcpmnfaaGreat
open Go Go.RowKit Rdn Rdn.Dp
theorem xgz:xcd Tryz.prog 3=some (190,Qr ([Qc 4 (.bool false)])
 (.seq (Qr ([Qm 21 0,Qq 22 4 [(.t 21)],Qp 23 (.un .not (.t 22)),Qm 24 23,Q0 25 24 (.mov (.t 1)),Q0 26 24 (.len (.t 25)),Q0 27 24 (.bin 0 .gtr (.t 26) (Qi 60)),Qt 28 24 27])
 (.cond (.t 28) (Qr ([Qq 29 5 [],Qm 4 29])
 (.ret)) (.skip)))
 (Qr ([Qm 30 0,Qq 31 6 [(.t 30)],Qq 32 7 [(.t 31)],Qw 5 (.alloc 53 (.agg [.agg [.nilS,.nilS,.nilS],.agg [.agg [.nilS,.int .u16 0],.agg [.nilS,.nilS],.nilS],.agg [.nilS,.nilS,.nilS,.agg [.nilS,.nilS],.nilS],.agg [.nilS,.nilS],.nilS,.nilS])),Qs 18 5 32])
 (Qr ([Qf 33 16 4 5,Ql 34 1 33,Qq 35 8 [(.t 34)],Qm 6 35])
 (Qr ([Qw 7 (.alloc 59 (.agg [.int .i64 0,.int .i64 0,.int .i64 0,.nilS]))])
 (Qr ([Qw 8 (.alloc 61 (.agg [.int .i64 0,.int .i64 0,.nilS]))])
 (.seq (Qr ([Qp 9 (.mov (Qi 0))])
 (.block 0 (.loop (.seq (Qr ([Qm 36 9,Qm 37 6,Qn 38 37,Qb 39 .lss 36 38,Qm 40 39,Q1 41 40 (.mov (.t 9)),Q1 42 40 (.bin 0 .lss (.t 41) (Qi 64)),Qu 43 40 42])
 (.cond (.t 43) (.skip) (.exit 0)))
 (.seq (.block 1 (.seq (.dreg [QL 47 4 7,Qm 48 6,Qm 49 9,Qx 50 3 48 49,Qf 51 1 1 50,Ql 52 1 51,Qm 53 6,Qm 54 9,Qx 55 3 53 54,Qf 56 2 2 55,Ql 57 1 56,Qq 58 9 [(.t 47),(.t 52),(.t 57)],Qm 46 58,Qe 59 46 0,Qe 60 46 1,Qe 61 46 2,Qw 10 (.alloc 59 (.agg [.int .i64 0,.int .i64 0,.int .i64 0,.nilS])),Qs 4 10 59,Qm 11 60,Qm 12 61] [[],[],[],[1,2],[1,2,3],[1,2,3,4],[],[],[6,7],[6,7,8],[6,7,8,9],[0,1,2,3,4,5,6,7,8,9,10],[0,1,2,3,4,5,6,7,8,9,10,11],[0,1,2,3,4,5,6,7,8,9,10,11,12],[0,1,2,3,4,5,6,7,8,9,10,11,12],[0,1,2,3,4,5,6,7,8,9,10,11,12],[],[0,1,2,3,4,5,6,7,8,9,10,11,12,13,16],[0,1,2,3,4,5,6,7,8,9,10,11,12,13,14,16,17],[0,1,2,3,4,5,6,7,8,9,10,11,12,13,14,15,16,17,18]])
 (.seq (Qr ([Qm 62 12,Qk 63 .neq 62 0,Qm 64 63,Q0 65 64 (.mov (.t 11)),Q0 66 64 (.mov (.t 9)),Q0 67 64 (.bin 0 .neq (.t 65) (.t 66)),Qt 68 64 67])
 (.cond (.t 68) (Qr ([Qc 4 (.bool false)])
 (.ret)) (.skip)))
 (.reg [QL 69 4 10,Qs 4 7 69]))))
 (.reg [Qm 44 9,Qk 45 .add 44 1,Qm 9 45]))))))
 (Qr ([Qp 13 (.mov (Qi 0))])
 (.seq (Qr ([Qp 14 (.mov (Qi 0))])
 (.block 2 (.loop (.seq (Qr ([Qm 70 14,Qm 71 1,Qn 72 71,Qb 73 .lss 70 72])
 (.cond (.t 73) (.skip) (.exit 2)))
 (.seq (.block 3 (.seq (.dreg [Qf 76 0 0 7,Ql 77 1 76,Qm 78 13,Qm 79 1,Qm 80 14,Qx 81 1 79 80,Ql 82 1 81,Qp 83 (.conv .i64 (.t 82)),Qk 84 .rem 83 3,Qb 85 .add 78 84,Qp 86 (.mn (.t 77) (.t 85)),Qm 13 86] [[],[0],[],[],[],[3,4],[3,4,5],[3,4,5,6],[3,4,5,6,7],[2,3,4,5,6,7,8],[0,1,2,3,4,5,6,7,8,9],[0,1,2,3,4,5,6,7,8,9,10]])
 (Qr ([QL 88 4 7,Qm 89 13,Qq 90 10 [(.t 88),(.t 89)],Qm 87 90,Qe 91 87 0,Qe 92 87 1,Qw 15 (.alloc 59 (.agg [.int .i64 0,.int .i64 0,.int .i64 0,.nilS])),Qs 4 15 91,Qm 16 92])
 (Qr ([QL 94 4 15,Qq 95 11 [(.t 94)],Qm 93 95,Qe 96 93 0,Qe 97 93 1,Qm 17 96,Qm 18 97])
 (.seq (Qr ([Qm 98 16,Qk 99 .neq 98 0,Qm 100 99,Q0 101 100 (.mov (.t 18)),Q0 102 100 (.bin 0 .neq (.t 101) (Qi 0)),Qt 103 100 102])
 (.cond (.t 103) (Qr ([Qc 4 (.bool false)])
 (.ret)) (.skip)))
 (.seq (Qr ([Qp 19 (.mov (Qi 0))])
 (.block 4 (.loop (.seq (Qr ([Qm 104 19,Qm 105 17,Qn 106 105,Qb 107 .lss 104 106])
 (.cond (.t 107) (.skip) (.exit 4)))
 (.seq (.block 5 (.dreg [QL 111 3 8,Qm 112 14,Qp 113 (.bin 0 .add (Qi 1) (.t 112)),Qm 114 17,Qm 115 19,Qx 116 3 114 115,QL 117 3 116,Qq 118 12 [(.t 111),(.t 113),(.t 117)],Qm 110 118,Qe 119 110 0,Qe 120 110 1,Qe 121 110 2,Qs 3 8 119] [[],[],[1],[],[],[3,4],[3,4,5],[0,1,2,3,4,5,6],[0,1,2,3,4,5,6,7],[0,1,2,3,4,5,6,7,8],[0,1,2,3,4,5,6,7,8],[0,1,2,3,4,5,6,7,8],[0,1,2,3,4,5,6,7,8,9]]))
 (.reg [Qm 108 19,Qk 109 .add 108 1,Qm 19 109]))))))
 (Qr ([QL 122 4 15,Qs 4 7 122])
 (Qr ([Qm 123 1,Qm 124 14,Qx 125 1 123 124,Ql 126 1 125,Qp 127 (.bin 0 .gtr (.t 126) (.c (.int .u8 200)))])
 (.cond (.t 127) (.reg [QL 129 4 7,Qf 130 0 0 8,Ql 131 1 130,Qq 132 13 [(.t 129),(.t 131)],Qm 128 132,Qe 133 128 0,Qe 134 128 1,Qs 4 7 133]) (.skip))))))))))
 (.reg [Qm 74 14,Qk 75 .add 74 1,Qm 14 75]))))))
 (.seq (Qr ([Qf 135 0 0 8,Ql 136 1 135,Qm 137 13,Qb 138 .neq 136 137,Qm 139 138,Q0 140 139 (.fieldA 2 2 (.t 8)),Q0 141 139 (.load false 1 (.t 140)),Q0 142 139 (.len (.t 141)),Q0 143 139 (.mov (.t 13)),Q0 144 139 (.bin 0 .neq (.t 142) (.t 143)),Qt 145 139 144])
 (.cond (.t 145) (Qr ([Qc 4 (.bool false)])
 (.ret)) (.skip)))
 (.seq (Qr ([Qp 20 (.mov (Qi 0))])
 (.block 6 (.loop (.seq (Qr ([Qm 146 20,Qm 147 13,Qb 148 .lss 146 147])
 (.cond (.t 148) (.skip) (.exit 6)))
 (.seq (.block 7 (.seq (.dreg [Qf 151 2 2 8,Ql 152 1 151,Qm 153 20,Qx 154 3 152 153,Qf 155 0 0 154,Ql 156 1 155,Qm 157 20,Qb 158 .neq 156 157,Qm 159 158,Q0 160 159 (.fieldA 2 2 (.t 8)),Q0 161 159 (.load false 1 (.t 160)),Q0 162 159 (.mov (.t 20)),Q0 163 159 (.idxA 3 (.t 161) (.t 162)),Q0 164 159 (.fieldA 1 1 (.t 163)),Q0 165 159 (.load false 1 (.t 164)),Q0 166 159 (.mov (.t 6)),Q0 167 159 (.mov (.t 20)),Q0 168 159 (.idxA 3 (.t 166) (.t 167)),Q0 169 159 (.fieldA 1 1 (.t 168)),Q0 170 159 (.load false 1 (.t 169)),Q0 171 159 (.bin 0 .neq (.t 165) (.t 170)),Qt 172 159 171,Qm 173 172,Q0 174 173 (.fieldA 2 2 (.t 8)),Q0 175 173 (.load false 1 (.t 174)),Q0 176 173 (.mov (.t 20)),Q0 177 173 (.idxA 3 (.t 175) (.t 176)),Q0 178 173 (.fieldA 2 2 (.t 177)),Q0 179 173 (.load false 1 (.t 178)),Q0 180 173 (.len (.t 179)),Q0 181 173 (.mov (.t 6)),Q0 182 173 (.mov (.t 20)),Q0 183 173 (.idxA 3 (.t 181) (.t 182)),Q0 184 173 (.fieldA 2 2 (.t 183)),Q0 185 173 (.load false 1 (.t 184)),Q0 186 173 (.len (.t 185)),Q0 187 173 (.bin 0 .neq (.t 180) (.t 186)),Qt 188 173 187] [[],[0],[],[0,1,2],[0,1,2,3],[0,1,2,3,4],[],[0,1,2,3,4,5,6],[0,1,2,3,4,5,6,7],[0,1,2,3,4,5,6,7,8],[0,1,2,3,4,5,6,7,8,9],[0,1,2,3,4,5,6,7,8],[0,1,2,3,4,5,6,7,8,9,10,11],[0,1,2,3,4,5,6,7,8,9,10,11,12],[0,1,2,3,4,5,6,7,8,9,10,11,12,13],[0,1,2,3,4,5,6,7,8],[0,1,2,3,4,5,6,7,8],[0,1,2,3,4,5,6,7,8,15,16],[0,1,2,3,4,5,6,7,8,15,16,17],[0,1,2,3,4,5,6,7,8,15,16,17,18],[0,1,2,3,4,5,6,7,8,9,10,11,12,13,14,15,16,17,18,19],[0,1,2,3,4,5,6,7,8,9,10,11,12,13,14,15,16,17,18,19,20],[0,1,2,3,4,5,6,7,8,9,10,11,12,13,14,15,16,17,18,19,20,21],[0,1,2,3,4,5,6,7,8,9,10,11,12,13,14,15,16,17,18,19,20,21,22],[0,1,2,3,4,5,6,7,8,9,10,11,12,13,14,15,16,17,18,19,20,21,22,23],[0,1,2,3,4,5,6,7,8,9,10,11,12,13,14,15,16,17,18,19,20,21,22],[0,1,2,3,4,5,6,7,8,9,10,11,12,13,14,15,16,17,18,19,20,21,22,23,24,25],[0,1,2,3,4,5,6,7,8,9,10,11,12,13,14,15,16,17,18,19,20,21,22,23,24,25,26],[0,1,2,3,4,5,6,7,8,9,10,11,12,13,14,15,16,17,18,19,20,21,22,23,24,25,26,27],[0,1,2,3,4,5,6,7,8,9,10,11,12,13,14,15,16,17,18,19,20,21,22,23,24,25,26,27,28],[0,1,2,3,4,5,6,7,8,9,10,11,12,13,14,15,16,17,18,19,20,21,22],[0,1,2,3,4,5,6,7,8,9,10,11,12,13,14,15,16,17,18,19,20,21,22],[0,1,2,3,4,5,6,7,8,9,10,11,12,13,14,15,16,17,18,19,20,21,22,30,31],[0,1,2,3,4,5,6,7,8,9,10,11,12,13,14,15,16,17,18,19,20,21,22,30,31,32],[0,1,2,3,4,5,6,7,8,9,10,11,12,13,14,15,16,17,18,19,20,21,22,30,31,32,33],[0,1,2,3,4,5,6,7,8,9,10,11,12,13,14,15,16,17,18,19,20,21,22,30,31,32,33,34],[0,1,2,3,4,5,6,7,8,9,10,11,12,13,14,15,16,17,18,19,20,21,22,23,24,25,26,27,28,29,30,31,32,33,34,35],[0,1,2,3,4,5,6,7,8,9,10,11,12,13,14,15,16,17,18,19,20,21,22,23,24,25,26,27,28,29,30,31,32,33,34,35,36]])
 (.cond (.t 188) (Qr ([Qc 4 (.bool false)])
 (.ret)) (.skip))))
 (.reg [Qm 149 20,Qk 150 .add 149 1,Qm 20 150]))))))
 (Qr ([Qq 189 5 [],Qm 4 189])
 (.ret)))))))))))),[.mov (.t 4)]):=by kernel_rfl
theorem gw0:SubV (.agg [.int .i64 0,.int .i64 0,.int .i64 0,.nilS]) (.agg [.int .i64 0,.int .i64 0,.int .i64 0,.sl false 3 []]):=SubV.agg ⟨SubV.refl _,SubV.refl _,SubV.refl _,SubV.nil _ _,trivial⟩
theorem mb0:SubV (.agg [.int .i64 0,.int .i64 0,.nilS]) (.agg [.int .i64 0,.int .i64 0,.sl false 3 []]):=SubV.agg ⟨SubV.refl _,SubV.refl _,SubV.nil _ _,trivial⟩
def gk (W:List Output) (a f k:Nat):Gateway:=⟨k,f,a,(W.take k).drop a⟩
def mk (W:List Output) (M:Nat) (e:Int):Mailbox:=⟨M,e,W.take M⟩
section
variable {W:List Output} {a f k:Nat}
theorem yen (h:k≤W.length):(gk W a f k).held.length=k-a:=by
 show((W.take k).drop a).length=k-a;rw [List.length_drop,List.length_take];omega
theorem ygc {j:Nat} (h:k≤W.length) (hj:j<k-a):((W.take k).drop a)[j]! =W[a+j]!:=by
 rw [getElem!_pos _ j (by rw [List.length_drop,List.length_take];omega),getElem!_pos W (a+j) (by omega),List.getElem_drop,List.getElem_take]
theorem xyf (hW:okOuts W) (h1:a≤f) (h2:f≤k) (h3:k≤W.length) (h4:k≤64):Gt.okG (gk W a f k):=by
 have hl:=yen (a:=a) (f:=f) h3;refine⟨⟨by show(0:Int)≤a;omega,by show(a:Int)≤f;omega,by show(f:Int)≤k;omega,by show(k:Int)≤200;omega,by omega,by rw [hl];show((k-a:Nat):Int)=k-a;omega⟩,fun j hj=>?_⟩;rw [hl] at hj;show Gt.okO a j ((W.take k).drop a)[j]!;rw [ygc h3 hj];obtain⟨e1,e2,e3,e4⟩:=hW.o (a+j) (by omega);exact⟨by rw [e1];omega,e2,e3,e4⟩
theorem xqs (hW:okOuts W) (h1:a≤f) (h2:f≤k) (h3:k≤W.length) (h4:k≤64):Gt.fitG (gk W a f k):=(xyf hW h1 h2 h3 h4).fit
theorem yjv (hW:okOuts W) {i:Nat} (h:i<W.length) (h4:i<64):Gt.sOff (gk W 0 0 i) W[i]!.socket W[i]!.data=(gk W 0 0 (i+1),(i:Int),0):=by
 have hok:=xyf hW (Nat.le_refl 0) (Nat.zero_le i) (Nat.le_of_lt h) (Nat.le_of_lt h4);have hlen:=yen (a:=0) (f:=0) (Nat.le_of_lt h);obtain⟨e1,e2,e3,e4⟩:=hW.o i h;unfold Gt.sOff;rw [Gt.chk_T hok,if_neg (by omega),if_neg (by omega),if_neg (by rw [hlen];show ¬((i:Int)=200∨i-0=64);omega)];have e:W.take i++[(⟨(i:Int),W[i]!.socket,W[i]!.data⟩:Output)]=W.take (i+1):=by
  rw [xbl h]
  congr 2
  rw [←e1]
 refine Prod.ext ?_ rfl;show(⟨(i:Int)+1,0,0,(W.take i).drop 0++[⟨i,W[i]!.socket,W[i]!.data⟩]⟩:Gateway)=⟨((i+1:Nat):Int),0,0,(W.take (i+1)).drop 0⟩;rw [List.drop_zero,List.drop_zero,e];rfl
theorem xye (hW:okOuts W) (h1:a≤f) (h2:f≤k) (h3:k≤W.length) (h4:k≤64) {n:Nat} (h5:f≤n) (h6:n≤k):Gt.sFree (gk W a f k) n=(gk W a n k,0):=by
 unfold Gt.sFree;rw [Gt.chk_T (xyf hW h1 h2 h3 h4),if_neg (by omega),if_neg (by show ¬((n:Int)<f∨(n:Int)>k);omega)];rfl
theorem xyg (hW:okOuts W) (h1:a≤f) (h2:f≤k) (h3:k≤W.length) (h4:k≤64):Gt.sSend (gk W a f k)=((W.take f).drop a,0):=by
 unfold Gt.sSend;rw [Gt.chk_T (xyf hW h1 h2 h3 h4),if_neg (by omega)];have e:((gk W a f k).free-(gk W a f k).acked).toNat=f-a:=by show((f:Int)-a).toNat=f-a;omega
 rw [e];show(((W.take k).drop a).take (f-a),(0:Int))=_;rw [List.take_drop,List.take_take,show min (a+(f-a)) k=f by omega]
theorem yem (hW:okOuts W) (h1:a≤f) (h2:f≤k) (h3:k≤W.length) (h4:k≤64):Gt.sAck (gk W a f k) f=(gk W f f k,0):=by
 unfold Gt.sAck;rw [Gt.chk_T (xyf hW h1 h2 h3 h4),if_neg (by omega),if_neg (by show ¬((f:Int)<a∨(f:Int)>f);omega)];show((⟨k,f,f,((W.take k).drop a).drop ((f:Int)-a).toNat⟩:Gateway),(0:Int))=_;rw [List.drop_drop,show a+((f:Int)-a).toNat=f by omega];rfl
theorem xz3 {M j:Nat} {e e':Int} (hW:okOuts W) (he:e≤e') (hj:j≤M) (hl:j<W.length) (hM:M≤W.length):(Gt.sTake (mk W M e) e' W[j]!).1=mk W (max M (j+1)) e':=by
 have h64:=hW.n;obtain⟨s1,-,-,-⟩:=hW.o j hl;unfold Gt.sTake;have e1:(mk W M e).next=M:=rfl;have e2:(mk W M e).epoch=e:=rfl;rw [e1,e2,if_neg (by omega),if_neg (by omega)];by_cases h:j<M
 ·rw [if_pos (by omega)]
  show(⟨(M:Int),e',W.take M⟩:Mailbox)=mk W (max M (j+1)) e';rw [show max M (j+1)=M by omega];rfl
 ·obtain rfl:j=M:=by omega
  rw [if_neg (by omega),if_neg (by omega)];show(⟨(j:Int)+1,e',W.take j++[W[j]!]⟩:Mailbox)=mk W (max j (j+1)) e';rw [show max j (j+1)=j+1 by omega,←xbl hl];rfl
theorem yeq {M:Nat} {e:Int} (hW:okOuts W):Gt.fitO (mk W M e).taken:=by
 have h:=hW.n;refine⟨by show(W.take M).length≤_;rw [List.length_take];omega,fun o ho=>?_⟩;have ho:o∈W.take M:=ho;obtain⟨j,hj,rfl⟩:=List.mem_iff_getElem.1 (List.mem_of_mem_take ho);have:=(hW.o j hj).2.2.2;rw [getElem!_pos W j hj] at this;omega
end
theorem yl9 (l ps:List Int):Fnc Tryz.prog 3 [.sl false 1 (i64s l),.sl false 1 (u8s ps)] (fun x obs=>x=.bool true):=by
 refine Fnc.wf fun hw=>?_;simp only [V.wfs,V.wf,xdw,List.length_map] at hw;have hp:=hw.2.1.1;refine Fnc.low ?_;have ff:=yjt l;have fa:=yfg;by_cases h1:l.length≤400;rotate_left
 ·rw [decF h1] at ff
  refine zgo xgz fun W S=>?_;refine zcd (ff) ?_;refine zcd (fa) ?_;exact zrt xgz
 rw [decT h1] at ff;by_cases h2:ps.length≤60;rotate_left
 ·skip
  refine zgo xgz fun W S=>?_;refine zcd (ff) ?_;refine zcd (fa) ?_;exact zrt xgz
 refine zgo xgz fun W S=>?_;refine zcd (ff) ?_
 (first|refine xhg (yer l) ?_|refine xe0 (yer l) ?_);refine zev ?_
 refine xie (yjn l 0 (Nat.zero_le _)) rfl (by simp only [go_sem];rfl) rfl (by first|rfl|(simp only [go_sem];done)) (by first|rfl|(simp only [go_sem];done)) (by first|rfl|(simp only [go_sem];done)) (by first|rfl|(simp only [go_sem];done)|(simp only [go_sem];rfl)) fun x obs d hR=>?_;obtain⟨p,y,o,n,r,k',hst,hR,hn,hk,rfl,rfl,rfl⟩:=hR;simp only [V.shift,V.shifts,xht,List.map_nil,List.append_nil,List.set_cons_zero];have hok:=hR.ok hst (by omega);have hln:=hR.len hst (by omega);have fo:=yl2 r.record (by omega) hok.rc;have hW:=xzg r.record;generalize outR r.record=W at fo hW;refine zst ?_;refine zcd (fo) ?_;refine xc5 2 _ rfl gw0 rfl (xc5 3 _ rfl mb0 rfl ?_);refine xa7 false [2,3] [1,6,7,8,9] (by simp only [go_sem]) (by simp only [go_sem]) ?_;simp only [go_sem];have hWn:=hW.n;refine zlk [1,6,7,8] (fun p:{p:Nat // p≤W.length∧p≤64}=>[(9,.int .i64 p.1)]) (fun p=>[⟨.box false 59,true,0,.agg [.int .i64 p.1,.int .i64 0,.int .i64 0,.sl false 3 (((W.take p.1).drop 0).map (xai false))]⟩,⟨.box false 61,true,0,.agg [.int .i64 0,.int .i64 0,.sl false 3 []]⟩]) (fun p=>64-p.1) (⟨0,by omega⟩) 2 ?_;intro J hJ
 rintro⟨N,hi,hi4⟩
 dsimp only at hi hi4⊢;by_cases c1:N<W.length
 ·by_cases c2:N<64
  ·have f:=Gt.woff_fn (gk W 0 0 N) W[N]!.socket W[N]!.data (xqs hW (Nat.le_refl 0) (Nat.zero_le N) hi hi4)
   rw [yjv hW c1 c2] at f;simp only [gwL,gk,Int.natCast_zero,Int.ofNat_zero] at f;refine zst ?_;refine zcd (f) ?_;refine xbw 2 (hJ _ (⟨N+1,c1,c2⟩) (by first|omega|(dsimp only;omega)|(simp;omega))) rfl (by simp) ?_ (by first|rfl|(simp only [go_sem];done)) (by first|rfl|(simp only [go_sem];done)) ?_
   ·(first|rfl|(simp only [go_sem];done)|(simp only [go_sem];simp only [];done)|(simp only [];done)|(simp only [go_sem];simp [];done)|(simp [];done))
   ·(simp only [go_sem];(repeat' (refine And.intro ?_ ?_))<;>first|exact trivial|with_reducible rfl|(simp only [];done)|(simp only [];with_reducible rfl)|(simp [];done)|(simp [];omega)|(simp only [];rfl)|skip)
  ·skip
   refine zst ?_;refine zlk [1,6,7,8] (fun p:{p:Nat×Nat×Nat×Int // p.1≤ps.length∧p.2.2.1≤p.2.1∧p.2.1≤N∧p.2.2.2≤p.1}=>[(13,.int .i64 p.1.2.1),(14,.int .i64 p.1.1)]) (fun p=>[⟨.box false 59,true,0,.agg [.int .i64 N,.int .i64 p.1.2.1,.int .i64 p.1.2.2.1,.sl false 3 (((W.take N).drop p.1.2.2.1).map (xai false))]⟩,⟨.box false 61,true,0,.agg [.int .i64 p.1.2.1,.int .i64 p.1.2.2.2,.sl false 3 ((W.take p.1.2.1).map (xai false))]⟩]) (fun p=>ps.length-p.1.1) (⟨(0,0,0,0),by simp⟩) 2 ?_;intro J hJ
   rintro⟨⟨i,F,a,e⟩,i1,i2,i3,i4⟩
   dsimp only at i1 i2 i3 i4⊢;by_cases c:i<ps.length
   ·have hv:=xov (hp ps[i]! (xam c))
    obtain⟨F2,hF2,j1,j2⟩:∃F2:Nat,(if(F:Int)+ps[i]! % 3<N then(F:Int)+ps[i]! % 3 else N)=F2∧F≤F2∧F2≤N:=by
     refine⟨min N (F+(ps[i]! % 3).toNat),?_,by omega,by omega⟩;split<;>omega
    have ff:=Gt.wfree_fn (gk W a F N) F2 (xqs hW i2 i3 hi hi4);rw [xye hW i2 i3 hi hi4 j1 j2] at ff;have fs:=Gt.wsend_fn (gk W a F2 N);rw [xyg hW (by omega) j2 hi hi4] at fs;have fk:=Gt.wack_fn (gk W a F2 N) F2 (xqs hW (by omega) j2 hi hi4);rw [yem hW (by omega) j2 hi hi4] at fk;simp only [gwL,gk] at ff fs fk;have ol:((W.take F2).drop a).length=F2-a:=by rw [List.length_drop,List.length_take];omega
    have oi:∀j,j<F2-a→((W.take F2).drop a)[j]! =W[a+j]!:=fun j hj=>ygc (by omega) hj;generalize (W.take F2).drop a=out at fs ol oi;have hJ0:=hJ;refine zsx hF2 ?_;refine zcd (ff) ?_;refine zcd (fs) ?_;refine zlk [1,6,7,8,13,14,15,17] (fun q:{q:Nat×Nat×Int // q.1≤F2-a∧q.2.1=max F (a+q.1)∧q.2.2≤i+1}=>[(19,.int .i64 q.1.1)]) (fun q=>[⟨.box false 59,true,0,.agg [.int .i64 N,.int .i64 F,.int .i64 a,.sl false 3 (((W.take N).drop a).map (xai false))]⟩,⟨.box false 61,true,0,.agg [.int .i64 q.1.2.1,.int .i64 q.1.2.2,.sl false 3 ((W.take q.1.2.1).map (xai false))]⟩,⟨.box false 59,true,0,.agg [.int .i64 N,.int .i64 F2,.int .i64 a,.sl false 3 (((W.take N).drop a).map (xai false))]⟩]) (fun q=>F2-a-q.1.1) (⟨(0,F,e),by simp,by simp;omega,by simp;omega⟩) 3 ?_;intro J hJ
    rintro⟨⟨j,M,e2⟩,k1,k2,k3⟩
    dsimp only at k1 k2 k3⊢;by_cases c3:j<F2-a
    ·have ho:=oi j c3
     have ft:=Gt.wtake_fn (mk W M e2) (1+i) W[a+j]! (yeq hW) (by have:=(hW.o (a+j) (by omega)).2.2.2;omega);generalize (Gt.sTake (mk W M e2) (1+i) W[a+j]!).2.1=x1 at ft;generalize (Gt.sTake (mk W M e2) (1+i) W[a+j]!).2.2=x2 at ft;rw [xz3 hW (by omega) (by omega) (by omega) (by omega)] at ft;simp only [mbL,mk] at ft;have hmx:max M (a+j+1)=max F (a+(j+1)):=by omega
     rw [hmx] at ft;refine zsx ho ?_;refine zcd (ft) ?_;exact zn3 (hJ _ (⟨(j+1,max F (a+(j+1)),1+i),c3,rfl,by show(1:Int)+i≤i+1;omega⟩) (by first|omega|(dsimp only;omega)|(simp;omega))) ho
    ·obtain rfl:j=F2-a:=by omega
     obtain rfl:M=F2:=by omega
     have hJ:=hJ0;by_cases c4:200<ps[i]!
     ·refine zst ?_
      refine zcd (fk) ?_;refine xbw 2 (hJ _ (⟨(i+1,M,M,e2),c,Nat.le_refl _,j2,by show e2≤((i+1:Nat):Int);omega⟩) (by first|omega|(dsimp only;omega)|(simp;omega))) rfl (by simp) ?_ (by first|rfl|(simp only [go_sem];done)) (by first|rfl|(simp only [go_sem];done)) ?_
      ·(first|rfl|(simp only [go_sem];done)|(simp only [go_sem];simp only [];done)|(simp only [];done)|(simp only [go_sem];simp [];done)|(simp [];done))
      ·(simp only [go_sem];(repeat' (refine And.intro ?_ ?_))<;>first|exact trivial|with_reducible rfl|(simp only [];done)|(simp only [];with_reducible rfl)|(simp [];done)|(simp [];omega)|(simp only [];rfl)|skip)
     ·refine zst ?_
      refine xbw 2 (hJ _ (⟨(i+1,M,a,e2),c,by show a≤M;omega,j2,by show e2≤((i+1:Nat):Int);omega⟩) (by first|omega|(dsimp only;omega)|(simp;omega))) rfl (by simp) ?_ (by first|rfl|(simp only [go_sem];done)) (by first|rfl|(simp only [go_sem];done)) ?_
      ·(first|rfl|(simp only [go_sem];done)|(simp only [go_sem];simp only [];done)|(simp only [];done)|(simp only [go_sem];simp [];done)|(simp [];done))
      ·(simp only [go_sem];(repeat' (refine And.intro ?_ ?_))<;>first|exact trivial|with_reducible rfl|(simp only [];done)|(simp only [];with_reducible rfl)|(simp [];done)|(simp [];omega)|(simp only [];rfl)|skip)
   ·have htl:(W.take F).length=F:=by rw [List.length_take];omega
    refine zsx htl ?_;refine zlk [6,8,13] (fun q:{q:Nat // q≤F}=>[(20,.int .i64 q.1)]) (fun q=>[⟨.box false 59,true,0,.agg [.int .i64 N,.int .i64 F,.int .i64 a,.sl false 3 (((W.take N).drop a).map (xai false))]⟩,⟨.box false 61,true,0,.agg [.int .i64 F,.int .i64 e,.sl false 3 ((W.take F).map (xai false))]⟩]) (fun q=>F-q.1) (⟨0,Nat.zero_le _⟩) 2 ?_;intro J hJ
    rintro⟨j,hj⟩
    by_cases c3:j<F
    ·have hg:(W.take F)[j]! =W[j]!:=by rw [getElem!_pos _ j (by omega),getElem!_pos W j (by omega),List.getElem_take]
     have hs:=(hW.o j (by omega)).1;refine zsx (And.intro hg (hs)) ?_;exact zn2 (hJ _ (⟨j+1,c3⟩) (by first|omega|(dsimp only;omega)|(simp;omega))) (And.intro hg (hs))
    ·obtain rfl:j=F:=by omega
     refine zst ?_;refine zcd (fa) ?_;exact zrt xgz
 ·skip
  have htk:W.take N=W:=List.take_of_length_le (by omega);refine zst ?_;refine xay [1,6,7,8] (fun p:{p:Nat×Nat×Nat×Int // p.1≤ps.length∧p.2.2.1≤p.2.1∧p.2.1≤N∧p.2.2.2≤p.1}=>[(13,.int .i64 p.1.2.1),(14,.int .i64 p.1.1)]) (fun p=>[⟨.box false 59,true,0,.agg [.int .i64 N,.int .i64 p.1.2.1,.int .i64 p.1.2.2.1,.sl false 3 (((W.take N).drop p.1.2.2.1).map (xai false))]⟩,⟨.box false 61,true,0,.agg [.int .i64 p.1.2.1,.int .i64 p.1.2.2.2,.sl false 3 ((W.take p.1.2.1).map (xai false))]⟩]) (fun p=>ps.length-p.1.1) (⟨(0,0,0,0),by simp⟩) 2 (by simp only [go_sem];rfl) ?_ (by first|rfl|(simp only [go_sem];done)|(simp only [go_sem];simp [htk];done)) (by simp) (by first|rfl|(simp only [go_sem];done)) (by first|rfl|(simp only [go_sem];done)) (by first|rfl|(simp only [go_sem];done)|(simp only [htk];(try simp only [go_sem]);first|done|rfl)) ?_
  ·(simp only [go_sem];(try simp [htk]);done)
  intro J hJ;clear c1 htk
  rintro⟨⟨i,F,a,e⟩,i1,i2,i3,i4⟩
  dsimp only at i1 i2 i3 i4⊢;by_cases c:i<ps.length
  ·have hv:=xov (hp ps[i]! (xam c))
   obtain⟨F2,hF2,j1,j2⟩:∃F2:Nat,(if(F:Int)+ps[i]! % 3<N then(F:Int)+ps[i]! % 3 else N)=F2∧F≤F2∧F2≤N:=by
    refine⟨min N (F+(ps[i]! % 3).toNat),?_,by omega,by omega⟩;split<;>omega
   have ff:=Gt.wfree_fn (gk W a F N) F2 (xqs hW i2 i3 hi hi4);rw [xye hW i2 i3 hi hi4 j1 j2] at ff;have fs:=Gt.wsend_fn (gk W a F2 N);rw [xyg hW (by omega) j2 hi hi4] at fs;have fk:=Gt.wack_fn (gk W a F2 N) F2 (xqs hW (by omega) j2 hi hi4);rw [yem hW (by omega) j2 hi hi4] at fk;simp only [gwL,gk] at ff fs fk;have ol:((W.take F2).drop a).length=F2-a:=by rw [List.length_drop,List.length_take];omega
   have oi:∀j,j<F2-a→((W.take F2).drop a)[j]! =W[a+j]!:=fun j hj=>ygc (by omega) hj;generalize (W.take F2).drop a=out at fs ol oi;have hJ0:=hJ;refine zsx hF2 ?_;refine zcd (ff) ?_;refine zcd (fs) ?_;refine zlk [1,6,7,8,13,14,15,17] (fun q:{q:Nat×Nat×Int // q.1≤F2-a∧q.2.1=max F (a+q.1)∧q.2.2≤i+1}=>[(19,.int .i64 q.1.1)]) (fun q=>[⟨.box false 59,true,0,.agg [.int .i64 N,.int .i64 F,.int .i64 a,.sl false 3 (((W.take N).drop a).map (xai false))]⟩,⟨.box false 61,true,0,.agg [.int .i64 q.1.2.1,.int .i64 q.1.2.2,.sl false 3 ((W.take q.1.2.1).map (xai false))]⟩,⟨.box false 59,true,0,.agg [.int .i64 N,.int .i64 F2,.int .i64 a,.sl false 3 (((W.take N).drop a).map (xai false))]⟩]) (fun q=>F2-a-q.1.1) (⟨(0,F,e),by simp,by simp;omega,by simp;omega⟩) 3 ?_;intro J hJ
   rintro⟨⟨j,M,e2⟩,k1,k2,k3⟩
   dsimp only at k1 k2 k3⊢;by_cases c3:j<F2-a
   ·have ho:=oi j c3
    have ft:=Gt.wtake_fn (mk W M e2) (1+i) W[a+j]! (yeq hW) (by have:=(hW.o (a+j) (by omega)).2.2.2;omega);generalize (Gt.sTake (mk W M e2) (1+i) W[a+j]!).2.1=x1 at ft;generalize (Gt.sTake (mk W M e2) (1+i) W[a+j]!).2.2=x2 at ft;rw [xz3 hW (by omega) (by omega) (by omega) (by omega)] at ft;simp only [mbL,mk] at ft;have hmx:max M (a+j+1)=max F (a+(j+1)):=by omega
    rw [hmx] at ft;refine zsx ho ?_;refine zcd (ft) ?_;exact zn3 (hJ _ (⟨(j+1,max F (a+(j+1)),1+i),c3,rfl,by show(1:Int)+i≤i+1;omega⟩) (by first|omega|(dsimp only;omega)|(simp;omega))) ho
   ·obtain rfl:j=F2-a:=by omega
    obtain rfl:M=F2:=by omega
    have hJ:=hJ0;by_cases c4:200<ps[i]!
    ·refine zst ?_
     refine zcd (fk) ?_;refine xbw 2 (hJ _ (⟨(i+1,M,M,e2),c,Nat.le_refl _,j2,by show e2≤((i+1:Nat):Int);omega⟩) (by first|omega|(dsimp only;omega)|(simp;omega))) rfl (by simp) ?_ (by first|rfl|(simp only [go_sem];done)) (by first|rfl|(simp only [go_sem];done)) ?_
     ·(first|rfl|(simp only [go_sem];done)|(simp only [go_sem];simp only [];done)|(simp only [];done)|(simp only [go_sem];simp [];done)|(simp [];done))
     ·(simp only [go_sem];(repeat' (refine And.intro ?_ ?_))<;>first|exact trivial|with_reducible rfl|(simp only [];done)|(simp only [];with_reducible rfl)|(simp [];done)|(simp [];omega)|(simp only [];rfl)|skip)
    ·refine zst ?_
     refine xbw 2 (hJ _ (⟨(i+1,M,a,e2),c,by show a≤M;omega,j2,by show e2≤((i+1:Nat):Int);omega⟩) (by first|omega|(dsimp only;omega)|(simp;omega))) rfl (by simp) ?_ (by first|rfl|(simp only [go_sem];done)) (by first|rfl|(simp only [go_sem];done)) ?_
     ·(first|rfl|(simp only [go_sem];done)|(simp only [go_sem];simp only [];done)|(simp only [];done)|(simp only [go_sem];simp [];done)|(simp [];done))
     ·(simp only [go_sem];(repeat' (refine And.intro ?_ ?_))<;>first|exact trivial|with_reducible rfl|(simp only [];done)|(simp only [];with_reducible rfl)|(simp [];done)|(simp [];omega)|(simp only [];rfl)|skip)
  ·have htl:(W.take F).length=F:=by rw [List.length_take];omega
   refine zsx htl ?_;refine zlk [6,8,13] (fun q:{q:Nat // q≤F}=>[(20,.int .i64 q.1)]) (fun q=>[⟨.box false 59,true,0,.agg [.int .i64 N,.int .i64 F,.int .i64 a,.sl false 3 (((W.take N).drop a).map (xai false))]⟩,⟨.box false 61,true,0,.agg [.int .i64 F,.int .i64 e,.sl false 3 ((W.take F).map (xai false))]⟩]) (fun q=>F-q.1) (⟨0,Nat.zero_le _⟩) 2 ?_;intro J hJ
   rintro⟨j,hj⟩
   by_cases c3:j<F
   ·have hg:(W.take F)[j]! =W[j]!:=by rw [getElem!_pos _ j (by omega),getElem!_pos W j (by omega),List.getElem_take]
    have hs:=(hW.o j (by omega)).1;refine zsx (And.intro hg (hs)) ?_;exact zn2 (hJ _ (⟨j+1,c3⟩) (by first|omega|(dsimp only;omega)|(simp;omega))) (And.intro hg (hs))
   ·obtain rfl:j=F:=by omega
    refine zst ?_;refine zcd (fa) ?_;exact zrt xgz
theorem tgw_law {a0:List Int} {v0:Value} {a1:List Int} {v1:Value} (W:World) (e0:(Sh.slice (Sh.int .i64)).rd (old W) W a0 [v0]) (e1:(Sh.slice (Sh.int .u8)).rd (old W) W a1 [v1]):
  Calls Tryz.prog 3 #[v0,v1] W fun e w'=>e=.returned (.bool true)∧Below W.heap.size W w':=
 Fnc.law (yl9 a0 a1) (RdTs.slice ybo e0 (RdTs.slice yfw e1 RdTs.nil'))
end Go.Proofs.YtbgpfigkcpmnfaaGreat
