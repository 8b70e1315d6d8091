import Derived.Test.YtbgpfigkcpmnfaaGreatA27
import Derived.Test.YtbgpfigkcpmnfaaGreatA28
import Derived.Test.YtbgpfigkcpmnfaaGreatA29
import Derived.Test.YtbgpfigkcpmnfaaGreatA30
import Derived.Test.YtbgpfigkcpmnfaaGreatA31
import Derived.Test.YtbgpfigkcpmnfaaGreatA32
import Derived.Test.YtbgpfigkcpmnfaaGreatA33
import Derived.Test.YtbgpfigkcpmnfaaGreatA34
import Derived.Test.YtbgpfigkcpmnfaaGreatA25
import Derived.Test.YtbgpfigkcpmnfaaGreatA6
import Derived.Test.YtbgpfigkcpmnfaaGreatA14
set_option linter.unusedSimpArgs false
set_option linter.unusedVariables false
set_option maxHeartbeats 64000000
set_option maxRecDepth 100000
namespace Go.Proofs.YtbgpfigkcpmnfaaGreat
open Go Go.RowKit Rdn Rdn.Dp
theorem yks (p:PProg) (m:PMach) (C:Int) (h:okMach p C m) (t:Nat) (ht:t<4) (q:Request) (hq:q.thread=t) (x:Rdn.Result) (k:PutOk p m t q x):FncI Tryz.prog 113 (obM m) [xbn false p,.ptr 0 0 [] 0,reqV q,resV x] (fun y ob=>y=.bool (putS p m t q x).2∧ob=obM (putS p m t q x).1):=by
 have hi:t=0∨t=1∨t=2∨t=3:=by omega
 by_cases hb:bufS q.call=2∧x.data≠[]
 ·rcases hi with rfl|rfl|rfl|rfl
  ·exact yck p m C h q hq x k hb
  ·exact ycm p m C h q hq x k hb
  ·exact yco p m C h q hq x k hb
  ·exact ycq p m C h q hq x k hb
 ·rcases hi with rfl|rfl|rfl|rfl
  ·exact ycl p m C h q hq x k hb
  ·exact ycn p m C h q hq x k hb
  ·exact ycp p m C h q hq x k hb
  ·exact ycr p m C h q hq x k hb
theorem xf4:xcd Tryz.prog 54=some (137,Qr ([Qw 4 (.box 29 (.t 0)),Qw 5 (.box 39 (.t 1)),Qw 8 (.alloc 39 (.agg [.agg [.nilS,.int .u16 0],.agg [.nilS,.nilS],.nilS])),Qw 9 (.alloc 96 (.agg [.int .i64 0,.int .i64 0,.int .i64 0,.int .i64 0,.int .i64 0,.int .i64 0,.nilS,.nilS])),Qp 10 (.mov (Qi 0))])
 (Qr ([QL 20 3 4,QL 21 5 5,Qm 22 2,Qm 23 3,Qq 24 80 [(.t 20),(.t 21),(.t 22),(.t 23)],Qm 19 24,Qe 25 19 0,Qe 26 19 1,Qe 27 19 2,Qw 11 (.alloc 39 (.agg [.agg [.nilS,.int .u16 0],.agg [.nilS,.nilS],.nilS])),Qs 5 11 25,Qm 12 26,Qm 13 27])
 (.seq (Qr ([Qm 28 13,Qk 29 .neq 28 0])
 (.cond (.t 29) (Qr ([Qw 30 (.build none [.agg [.nilS,.int .u16 0],.agg [.nilS,.nilS],.nilS] []),Qw 31 (.build none [.int .i64 0,.int .i64 0,.int .i64 0,.int .i64 0,.int .i64 0,.int .i64 0,.nilS,.nilS] []),Qm 32 13,Qs 5 8 30,Qs 8 9 31,Qm 10 32])
 (.ret)) (.skip)))
 (Qr ([Qf 33 4 2 11,Ql 34 1 33,Qm 35 2,Qx 36 8 34 35,QL 37 8 36,Qw 14 (.alloc 148 (.agg [.int .i64 0,.nilS,.int .i64 0,.int .i64 0,.int .i64 0,.int .i64 0,.int .i64 0,.int .u16 0])),Qs 8 14 37])
 (Qr ([Qm 38 2,Qm 39 12,Qf 40 3 3 14,Ql 41 1 40,Qf 42 2 2 14,Ql 43 1 42,Qw 44 (.build none [.int .i64 0,.int .i64 0,.int .i64 0,.int .i64 0,.int .i64 0,.int .i64 0,.nilS,.nilS] [(0,(.t 38)),(1,(.t 39)),(3,(.t 41)),(4,(.t 43))]),Qw 15 (.alloc 96 (.agg [.int .i64 0,.int .i64 0,.int .i64 0,.int .i64 0,.int .i64 0,.int .i64 0,.nilS,.nilS])),Qs 8 15 44])
 (.seq (Qr ([Qm 45 12])
 (.block 0 (Qr ([Qk 47 .eql 45 2,Qm 46 47])
 (.cond (.t 46) (.reg [Qf 48 6 6 14,Ql 49 1 48,Qf 50 2 2 15,Qs 1 50 49]) (Qr ([Qk 52 .eql 45 1,Qm 51 52])
 (.cond (.t 51) (.seq (Qr ([QL 53 3 4,QL 54 5 11,Qm 55 2,Qq 56 81 [(.t 53),(.t 54),(.t 55)],Qm 16 56])
 (Qr ([Qm 57 16,Qk 58 .neq 57 0])
 (.cond (.t 58) (.seq (.dreg [Qf 59 4 2 11,Ql 60 1 59,Qm 61 2,QL 62 8 14,Qm 63 16,Qq 64 82 [(.t 62),(.t 63),(.c (.int .u16 0))],Qx 65 8 60 61,Qs 8 65 64] [[],[0],[],[],[],[3,4],[0,1,2,3,4,5],[0,1,2,3,4,5,6]])
 (Qr ([Qm 66 16,Qf 67 1 1 15,⟨none,none,(.m (.store 1 (.t 67) (Qi 2)))⟩,Qf 68 2 2 15,Qs 1 68 66])
 (.exit 0))) (.skip))))
 (Qr ([Qf 69 0 0 4,Ql 70 1 69,Qf 71 2 2 14,Ql 72 1 71,Qk 73 .sub 72 1,Qx 74 5 70 73,Qf 75 4 4 74,Ql 76 1 75,Qf 77 5 5 15,Qs 1 77 76])
 (.seq (Qr ([Qf 78 5 5 15,Ql 79 1 78,Qq 80 83 [(.t 79)],Qp 81 (.mov (Qi 0))])
 (.block 1 (.loop (Qr ([Qb 82 .lss 81 80])
 (.seq (.cond (.t 82) (.skip) (.exit 1))
 (.seq (.block 2 (Qr ([Qm 83 81,Qm 17 83])
 (.dreg [Qf 84 6 6 15,Ql 85 1 84,Qf 86 0 0 11,QL 87 2 86,Qf 88 1 1 4,Ql 89 1 88,Qf 90 1 1 14,Ql 91 1 90,Qm 92 17,Qx 93 2 91 92,QL 94 2 93,Qq 95 84 [(.t 87),(.t 89),(.t 94)],Qw 96 (.buildS 98 4 (.agg [.int .u8 0,.int .u16 0,.int .i64 0,.int .i64 0]) 1 [(0,(.t 95))]),Qw 97 (.app 98 4 24 (.t 85) (.t 96)),Qf 98 6 6 15,Qs 1 98 97] [[],[0],[],[2],[],[4],[],[6],[],[6,7,8],[6,7,8,9],[2,3,4,5,6,7,8,9,10],[2,3,4,5,6,7,8,9,10,11],[0,1,2,3,4,5,6,7,8,9,10,11,12],[0,1,2,3,4,5,6,7,8,9,10,11,12,13],[0,1,2,3,4,5,6,7,8,9,10,11,12,13,14]])))
 (.reg [Qk 99 .add 81 1,Qm 81 99])))))))
 (Qr ([Qf 100 5 5 15,Ql 101 1 100,Qq 102 85 [(.t 101)],Qk 103 .eql 102 1])
 (.cond (.t 103) (Qr ([Qf 104 1 1 14,Ql 105 1 104,Qp 106 (.idxA 2 (.t 105) (Qi 2)),Qf 107 1 1 106,Ql 108 1 107,Qp 109 (.conv .i64 (.t 108)),Qp 110 (.mov (Qi 0))])
 (.block 3 (.loop (Qr ([Qb 111 .lss 110 109])
 (.seq (.cond (.t 111) (.skip) (.exit 3))
 (.seq (.block 4 (Qr ([Qm 112 110,Qm 18 112])
 (.dreg [Qf 113 7 7 15,Ql 114 1 113,Qf 115 0 0 11,QL 116 2 115,Qf 117 1 1 4,Ql 118 1 117,Qf 119 2 1 11,QL 120 2 119,Qf 121 1 1 14,Ql 122 1 121,Qp 123 (.idxA 2 (.t 122) (Qi 1)),Qf 124 1 1 123,Ql 125 1 124,Qp 126 (.conv .i64 (.t 125)),Qm 127 18,Qb 128 .add 126 127,Qq 129 86 [(.t 120),(.t 128)],Qq 130 84 [(.t 116),(.t 118),(.t 129)],Qw 131 (.buildS 98 4 (.agg [.int .u8 0,.int .u16 0,.int .i64 0,.int .i64 0]) 1 [(0,(.t 130))]),Qw 132 (.app 98 4 24 (.t 114) (.t 131)),Qf 133 7 7 15,Qs 1 133 132] [[],[0],[],[2],[],[4],[],[6],[],[8],[8,9],[8,9,10],[8,9,10,11],[8,9,10,11,12],[],[8,9,10,11,12,13,14],[6,7,8,9,10,11,12,13,14,15],[2,3,4,5,6,7,8,9,10,11,12,13,14,15,16],[2,3,4,5,6,7,8,9,10,11,12,13,14,15,16,17],[0,1,2,3,4,5,6,7,8,9,10,11,12,13,14,15,16,17,18],[0,1,2,3,4,5,6,7,8,9,10,11,12,13,14,15,16,17,18,19],[0,1,2,3,4,5,6,7,8,9,10,11,12,13,14,15,16,17,18,19,20]])))
 (.reg [Qk 134 .add 110 1,Qm 110 134]))))))) (.skip)))))) (.skip)))))))
 (.seq (.dreg [QL 135 5 11,QL 136 8 15,Qs 5 8 135,Qs 8 9 136,Qp 10 (.mov (Qi 0))] [[],[],[0],[0,1,2],[0,1,2,3]])
 (.ret))))))),[.load true 5 (.t 8),.load true 8 (.t 9),.mov (.t 10)]):=by kernel_rfl
abbrev yka (m:PMach):V:=.agg [layV false m.lay,memV true m.mem,.sl true 8 (m.thr.map (thrV true))]
abbrev reqR (q:Request):V:=.agg [.int .i64 q.thread,.int .i64 q.stop,.int .i64 q.trap,.int .i64 q.count,.int .i64 q.pc,.int .i64 q.call,.sl true 4 (q.args.map xaf),.sl true 4 (q.data.map xaf)]
abbrev outA (m:PMach):V:=.agg [layV false m.lay,memV true m.mem,.own 4 0]
abbrev zM:V:=.agg [.agg [.nilS,.int .u16 0],.agg [.nilS,.nilS],.nilS]
abbrev zQ:V:=.agg [.int .i64 0,.int .i64 0,.int .i64 0,.int .i64 0,.int .i64 0,.int .i64 0,.nilS,.nilS]
theorem xyw {m:PMem} (h:xfi m) {addr:Int} (h0:0≤addr) (h1:addr<512):xbh (xrh m addr):=by
 obtain⟨k1,k2,k3,k4⟩:=h;have hl:=k4 (addr / 4 % 4).toNat (by omega);unfold xrh;dsimp only;by_cases c:m.lines[(addr / 4 % 4).toNat]!.tag=addr / 4
 ·rw [if_pos c]
  unfold xdj at hl;rw [if_neg (by omega)] at hl;exact xb3 hl.2.2.2.2 (by omega)
 ·rw [if_neg c]
  exact xb3 k3 (by omega)
theorem xxb (σ:AS) (l:List PThr):(l.map (thrV true)).map (dp1 σ)=l.map (thrV false):=by
 rw [List.map_map];exact List.map_congr_left fun x _=>by simp only [Function.comp,dp1,V.low,V.lows,xd4]
theorem yed (σ:AS) (l:List PThr):∀y∈l.map (thrV true),xqa σ y:=by
 intro y hy;obtain⟨x,-,rfl⟩:=List.mem_map.1 hy;rfl
theorem all3 {P:V→Prop} {a b c:V} (h1:P a) (h2:P b) (h3:P c):∀y∈[a,b,c],P y:=by
 intro y hy;simp at hy;rcases hy with rfl|rfl|rfl
 ·exact h1
 ·exact h2
 ·exact h3
theorem yf6 (p:PProg) (m:PMach) (h:okMach p 1099511627776 m) (t:Nat) (ht:t<4) (n:Int) (hn:1≤n∧n≤64) (hs:m.thr[t]!.state=1):Fnc Tryz.prog 54 [xbn false p,xd8 false m,.int .i64 t,.int .i64 n] (fun x obs=>x=.tup [yka (xhw p m t n).1,reqR (xhw p m t n).2,.int .i64 0]∧obs=[]):=by
 have fs:=yl4 p m h t ht n hn hs;have ok:=xvc h ht hn.1;have hcq:=xo8 h ht hn.1;have hlay:(xf0 p m t n).1.lay=m.lay:=yag p m t n;unfold xhw;rw [←hlay] at fs;generalize xf0 p m t n=Z at fs ok hcq⊢;obtain⟨g,s⟩:=Z;dsimp only at fs ok hcq⊢;clear hlay;obtain⟨hr,s0,s1,rl,pc0,pc1,cn0,cn1,-⟩:=xcm ok ht;have gn:=ok.n;by_cases c2:s=2
 ·subst c2
  rw [show reqS p g t 2=(g,⟨t,2,g.thr[t]!.trap,g.thr[t]!.count,g.thr[t]!.pc,0,[],[]⟩) by unfold reqS;exact if_pos rfl];refine zgo xf4 fun W S=>?_;refine zcx (fs) ?_;refine xb8 3 6 98 4 rfl rfl (by decide) rfl ?_;refine xb8 3 7 98 4 rfl rfl (by decide) rfl ?_;exact zrt xf4
 by_cases c1:s=1;rotate_left
 ·rw [show reqS p g t s=(g,⟨t,s,0,g.thr[t]!.count,g.thr[t]!.pc,0,[],[]⟩) by unfold reqS;rw [if_neg c2,if_neg c1]]
  refine zgo xf4 fun W S=>?_;refine zcx (fs) ?_;refine xb8 3 6 98 4 rfl rfl (by decide) rfl ?_;refine xb8 3 7 98 4 rfl rfl (by decide) rfl ?_;exact zrt xf4
 subst c1;obtain⟨q1,q2,q3,q4⟩:=hcq rfl;dsimp only at q1 q2 q3 q4;have hcr:=xm6 ok.prog q1 q2 q3;have fc:=yfm p g ok t ht q1 q2 hcr;by_cases hc:chkS p g.lay g.thr[t]! =0;rotate_left
 ·rw [show reqS p g t 1=(g.setT t (endS g.thr[t]! (chkS p g.lay g.thr[t]!) 0),⟨t,2,chkS p g.lay g.thr[t]!,g.thr[t]!.count,g.thr[t]!.pc,0,[],[]⟩) by unfold reqS;rw [if_neg c2,if_pos rfl,if_pos hc]]
  generalize chkS p g.lay g.thr[t]! =why at fc hc⊢;have fe:=yb0 g.thr[t]! rl why 0;have hset:(g.thr.set t (endS g.thr[t]! why 0)).map (thrV true)=(g.thr.map (thrV true)).set t (thrV true (endS g.thr[t]! why 0)):=List.map_set;refine zgo xf4 fun W S=>?_;refine zcx (fs) ?_;refine xwx fc ⟨rfl,all3 (by show xqb _ (xbn false p);exact all3 rfl rfl rfl) (by show xqb _ (outA g);exact all3 rfl rfl ⟨rfl,yed _ _⟩) rfl,?_,rfl,rfl,?_⟩
  ·show [dp3 _ (xbn false p),dp3 _ (outA g),dp3 _ (.int .i64 (t:Int))]=_
   simp only [dp3,dp2,List.map_cons,List.map_nil,V.low,V.lows,xd4,rowW,List.getElem?_cons_succ,List.getElem?_cons_zero,if_true,xxb]
  simp only [go_sem];refine zst ?_;refine zcd (fe) ?_;refine xb8 3 6 98 4 rfl rfl (by decide) rfl ?_;refine xb8 3 7 98 4 rfl rfl (by decide) rfl ?_;simp only [PMach.setT,yka,hset];exact zrt xf4
 rw [show reqS p g t 1=(g,⟨t,1,0,g.thr[t]!.count,g.thr[t]!.pc,xf2 p g.thr[t]!,xii p g.lay g.thr[t]! (kl (xf2 p g.thr[t]!)).length,if bufS (xf2 p g.thr[t]!)=1 then xj6 p g g.thr[t]! g.thr[t]!.regs[2]!.val.toNat else []⟩) by unfold reqS;rw [if_neg c2,if_pos rfl,if_neg (not_not_intro hc)]];rw [hc] at fc;have hv2:=(xb3 hr (k:=2) (by omega)).2.2;have hdat:bufS (xf2 p g.thr[t]!)=1→0≤g.thr[t]!.regs[1]!.val∧g.thr[t]!.regs[1]!.val+g.thr[t]!.regs[2]!.val≤512∧0≤g.thr[t]!.regs[2]!.val∧g.thr[t]!.regs[2]!.val≤16:=by
  intro hb;unfold chkS at hc;split at hc
  ·cases hc
  ·rename_i e1
   split at hc
   ·cases hc
   ·rename_i e2
    have w:(xdx g.lay p.sizes g.thr[t]!.regs[1]! g.thr[t]!.regs[2]!.val).2=0:=Classical.byContradiction fun q=>e2 ⟨by omega,.inl q⟩;have w2:¬16<g.thr[t]!.regs[2]!.val:=fun q=>e2 ⟨by omega,.inr q⟩;have w3:=xrv ok.lay w;omega
 clear hc;obtain⟨c,hc0⟩:∃c,xf2 p g.thr[t]! =c:=⟨_,rfl⟩;rw [hc0] at hcr hdat⊢;have hcs:p.code[(g.thr[t]!.pc-1).toNat]!.imm=c:=hc0;have fa:=ye7 c hcr.1 hcr.2;have fb:=xca c hcr.1 hcr.2;have hk3:=xfr c;have hcl:=ok.prog.c2;clear hc0;have hz:xii p g.lay g.thr[t]! 0=[]:=rfl
 ·skip
  refine zgo xf4 fun W S=>?_;refine zcx (fs) ?_;refine xwx fc ⟨rfl,all3 (by show xqb _ (xbn false p);exact all3 rfl rfl rfl) (by show xqb _ (outA g);exact all3 rfl rfl ⟨rfl,yed _ _⟩) rfl,?_,rfl,rfl,?_⟩
  ·show [dp3 _ (xbn false p),dp3 _ (outA g),dp3 _ (.int .i64 (t:Int))]=_
   simp only [dp3,dp2,List.map_cons,List.map_nil,V.low,V.lows,xd4,rowW,List.getElem?_cons_succ,List.getElem?_cons_zero,if_true,xxb]
  simp only [go_sem];refine zsx hcs ?_;refine zcd (fa) ?_;refine xb8 7 6 98 4 rfl rfl (by decide) rfl ?_;refine xay [4,8,9,11,14,15,80] (fun q:{q:Nat // q≤(kl c).length}=>[(81,.int .i64 q.1)]) (fun q=>[⟨.box false 29,true,0,xbn false p⟩,⟨.box false 39,true,0,xd8 false m⟩,⟨.box false 39,true,0,zM⟩,⟨.box false 96,true,0,zQ⟩,⟨.row 148,true,0,.arr 8 (g.thr.map (thrV true))⟩,⟨.box false 39,true,0,outA g⟩,⟨.box false 148,true,0,thrV true g.thr[t]!⟩,⟨.box false 96,true,0,.agg [.int .i64 t,.int .i64 1,.int .i64 0,.int .i64 g.thr[t]!.count,.int .i64 g.thr[t]!.pc,.int .i64 c,.own 8 q.1,.nilS]⟩,⟨.row 98,true,q.1,.arr 4 ((xii p g.lay g.thr[t]! q.1).map xaf)⟩]) (fun q=>(kl c).length-q.1) (⟨0,by simp⟩) 9 (by simp only [go_sem];rfl) ?_ (by first|rfl|(simp only [go_sem];done)|(simp only [go_sem];simp [hz];done)) (by simp) (by first|rfl|(simp only [go_sem];done)) (by first|rfl|(simp only [go_sem];done)) (by first|rfl|(simp only [go_sem];done)|(simp only [hz];(try simp only [go_sem]);first|done|rfl)) ?_
  ·(simp only [go_sem];(try simp [hz]);done)
  intro J hJ
  rintro⟨k,hk0⟩
  by_cases hlt:k<(kl c).length
  ·have fcan:=ye8 g.lay p.sizes g.thr[t]!.regs[k]! ok.lay (xb3 hr (by omega))
   have hal:=xm3 p g.lay g.thr[t]! k;have hsn:(xii p g.lay g.thr[t]! (k+1)).map xaf=(xii p g.lay g.thr[t]! k).map xaf++[xaf (canS g.lay p.sizes g.thr[t]!.regs[k]!)]:=by rw [xvm,List.map_append];rfl
   refine zst ?_;refine zcd (fcan) ?_;exact znx 9 (hJ _ (⟨k+1,hlt⟩) (by dsimp only;omega)) (by refine⟨rfl,by simp,?_,?_,?_,?_⟩<;>first|rfl|exact trivial|(simp only [go_sem];done)|(simp only [hsn];rfl)|(simp only [hsn];simp only [go_sem];done)|(simp only [go_sem];simp only [hsn];rfl)|(simp only [go_sem];(repeat' (refine And.intro ?_ ?_))<;>first|exact trivial|rfl))
  obtain rfl:k=(kl c).length:=by omega
  by_cases hb:bufS c=1;rotate_left
  ·rw [if_neg hb]
   refine zst ?_;refine zcd (fb) ?_;refine xb8 3 7 98 4 rfl rfl (by decide) rfl ?_;exact zrt xf4
  obtain⟨w0,w1,w2,w3⟩:=hdat hb;rw [hb] at fb;rw [if_pos hb];obtain⟨K,hK⟩:∃K:Nat,g.thr[t]!.regs[2]!.val=K:=⟨g.thr[t]!.regs[2]!.val.toNat,by omega⟩;rw [hK,Int.toNat_natCast];have hz2:xj6 p g g.thr[t]! 0=[]:=rfl;refine zst ?_;refine zcd (fb) ?_;refine xb8 7 7 98 4 rfl rfl (by decide) rfl ?_;refine xay [4,8,9,11,14,15,109] (fun q:{q:Nat // q≤K}=>[(110,.int .i64 q.1)]) (fun q=>[⟨.box false 29,true,0,xbn false p⟩,⟨.box false 39,true,0,xd8 false m⟩,⟨.box false 39,true,0,zM⟩,⟨.box false 96,true,0,zQ⟩,⟨.row 148,true,0,.arr 8 (g.thr.map (thrV true))⟩,⟨.box false 39,true,0,outA g⟩,⟨.box false 148,true,0,thrV true g.thr[t]!⟩,⟨.box false 96,true,0,.agg [.int .i64 t,.int .i64 1,.int .i64 0,.int .i64 g.thr[t]!.count,.int .i64 g.thr[t]!.pc,.int .i64 c,.own 8 (kl c).length,.own 9 q.1]⟩,⟨.row 98,true,(kl c).length,.arr 4 ((xii p g.lay g.thr[t]! (kl c).length).map xaf)⟩,⟨.row 98,true,q.1,.arr 4 ((xj6 p g g.thr[t]! q.1).map xaf)⟩]) (fun q=>K-q.1) (⟨0,by simp⟩) 10 (by simp only [go_sem];rfl) ?_ (by first|rfl|(simp only [go_sem];done)|(simp only [go_sem];simp [hz2,hK];done)) (by simp) (by first|rfl|(simp only [go_sem];done)) (by first|rfl|(simp only [go_sem];done)) (by first|rfl|(simp only [go_sem];done)|(simp only [hz2,hK];(try simp only [go_sem]);first|done|rfl)) ?_
  ·(simp only [go_sem];(try simp [hz2,hK]);done)
  intro J hJ
  rintro⟨k,hk0⟩
  by_cases hlt:k<K
  ·have flk:=yk8 g.mem ok.mem (g.thr[t]!.regs[1]!.val+k) (by omega) (by omega)
   have fcan:=ye8 g.lay p.sizes (xrh g.mem (g.thr[t]!.regs[1]!.val+k)) ok.lay (xyw ok.mem (by omega) (by omega));have hal:=xq9 p g g.thr[t]! k;have hsn:(xj6 p g g.thr[t]! (k+1)).map xaf=(xj6 p g g.thr[t]! k).map xaf++[xaf (canS g.lay p.sizes (xrh g.mem (g.thr[t]!.regs[1]!.val+k)))]:=by rw [xvt,List.map_append];rfl
   refine zst ?_;refine zcd (flk) ?_;refine zcd (fcan) ?_;exact znx 10 (hJ _ (⟨k+1,hlt⟩) (by dsimp only;omega)) (by refine⟨rfl,by simp,?_,?_,?_,?_⟩<;>first|rfl|exact trivial|(simp only [go_sem];done)|(simp only [hsn];rfl)|(simp only [hsn];simp only [go_sem];done)|(simp only [go_sem];simp only [hsn];rfl)|(simp only [go_sem];(repeat' (refine And.intro ?_ ?_))<;>first|exact trivial|rfl))
  obtain rfl:k=K:=by omega
  refine zst ?_;exact zrt xf4
end Go.Proofs.YtbgpfigkcpmnfaaGreat
