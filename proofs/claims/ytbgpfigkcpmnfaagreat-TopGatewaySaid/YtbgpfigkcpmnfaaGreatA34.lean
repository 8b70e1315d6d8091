import Derived.Test.YtbgpfigkcpmnfaaGreatA26
import Derived.Test.YtbgpfigkcpmnfaaGreatA6
set_option linter.unusedSimpArgs false
set_option linter.unusedVariables false
set_option maxHeartbeats 64000000
set_option maxRecDepth 100000
namespace Go.Proofs.YtbgpfigkcpmnfaaGreat
open Go Go.RowKit Rdn Rdn.Dp
theorem ycq (p:PProg) (m:PMach) (C:Int) (h:okMach p C m) (q:Request) (hq:q.thread=3) (x:Rdn.Result) (k:PutOk p m 3 q x) (hb:(bufS q.call=2∧x.data≠[])):FncI Tryz.prog 113 (obM m) [xbn false p,.ptr 0 0 [] 0,reqV q,resV x] (fun y ob=>y=.bool (putS p m 3 q x).2∧ob=obM (putS p m 3 q x).1):=by
 obtain⟨lay,mem,thr⟩:=m;obtain⟨hp,hl,hm,hn,ht⟩:=h;obtain⟨t0,t1,t2,t3,rfl⟩:=four hn;dsimp only at hl hm ht;obtain⟨hst,c0,c1,hal,⟨sp0,sp1⟩,hxd,hrd,hra⟩:=k;simp only [List.getElem!_cons_zero,List.getElem!_cons_succ] at hst;have hx:=ht t3 (by simp);obtain⟨-,-,-,rl,-⟩:=hx;have hbl:=hl.2.1;have hk3:=xfr q.call;have fr:=xei lay p.sizes x.value hl;have fb:=xca q.call c0 c1;by_cases v0:(rawS lay p.sizes x.value).2=0;rotate_left
 ·rw [show putS p ⟨lay,mem,[t0,t1,t2,t3]⟩ 3 q x=(⟨lay,mem,[t0,t1,t2,t3]⟩,false) by unfold putS;exact if_pos v0]
  refine zpq hq ?_;refine zqi xa0 fun W lent S=>?_;refine zst ?_;refine zcd (fr) ?_;refine xag 12 xa0 ?_;exact zfn
 rw [v0] at fr;have hM:=xls (p:=p) (m:=⟨lay,mem,[t0,t1,t2,t3]⟩) hb;have hS:=xlt (p:=p) (m:=⟨lay,mem,[t0,t1,t2,t3]⟩) (t:=3) (x:=x) hb.1 v0;rw [hM] at hS;rw [hS];clear hS hM;obtain⟨hb2,hdn⟩:=hb;have ha3:=xyj hb2;have hcz:=xnj hb2;have hdl:x.data.length>0:=List.length_pos_iff.2 hdn;rw [hb2] at fb;have fp:=xo3 p.sizes q.args[1]!;by_cases p0:xgi p.sizes q.args[1]!;rotate_left
 ·rw [if_pos (.inl p0),xez]
  rw [decF p0] at fp;refine zpq hq ?_;refine zqi xa0 fun W lent S=>?_;refine zst ?_;refine zcd (fr) ?_;refine zcd (fb) ?_;refine zcd (fp) ?_;refine xag 12 xa0 ?_;exact zfn
 rw [decT p0] at fp;by_cases p1:q.args[1]!.tag=1;rotate_left
 ·rw [if_pos (.inr p1),xez]
  refine zpq hq ?_;refine zqi xa0 fun W lent S=>?_;refine zst ?_;refine zcd (fr) ?_;refine zcd (fb) ?_;refine zcd (fp) ?_;refine xag 12 xa0 ?_;exact zfn
 rw [if_neg (fun e=>e.elim (fun a=>a p0) fun a=>a p1)];obtain⟨R,hR⟩:∃R,R=putL lay p.sizes q.args[1]!.region q.args[1]!.offset x.data mem:=⟨_,rfl⟩;have hR0:R=putL lay p.sizes q.args[1]!.region (q.args[1]!.offset+((0:Nat):Int)) (x.data.drop 0) mem:=by rw [Int.natCast_zero,Int.add_zero,List.drop_zero];exact hR
 dsimp only;rw [←hR];clear hR;refine zpq hq ?_;refine zqi xa0 fun W lent S=>?_;refine zst ?_;refine zcd (fr) ?_;refine zcd (fb) ?_;refine zcd (fp) ?_;refine xa7 true [0,1,2,3,4,5,6,7,8,9,10,11,12,13,14,15,16] [1,4,6,7,8,9,10,12,80,81,82] (by simp only [go_sem]) (by simp only [go_sem]) ?_;simp only [go_sem];refine xay [1,4,6,7,9,10,12,80,81] (fun q1:{q1:Nat×PMem // q1.1≤x.data.length∧xfi q1.2∧R=putL lay p.sizes q.args[1]!.region (q.args[1]!.offset+q1.1) (x.data.drop q1.1) q1.2}=>[(82,.int .i64 q1.1.1)]) (fun q1=>obM ⟨lay,q1.1.2,[t0,t1,t2,t3]⟩++[⟨.box false 29,true,0,xbn false p⟩,⟨.box false 96,true,0,reqV q⟩,⟨.box false 100,true,0,resV x⟩,⟨.box false 177,true,0,xau (rawS lay p.sizes x.value).1⟩,⟨.box false 196,true,0,.agg [.int .i64 q.args[1]!.region,.int .i64 (q.args[1]!.offset+q1.1.1)]⟩]) (fun q1=>x.data.length-q1.1.1) (⟨(0,mem),by omega,hm,hR0⟩) 17 (by simp only [go_sem];rfl) ?_ (by first|rfl|(simp only [go_sem];done)|(simp only [go_sem];simp [hq];done)) (by simp) (by first|rfl|(simp only [go_sem];done)) (by first|rfl|(simp only [go_sem];done)) (by first|rfl|(simp only [go_sem];done)|(simp only [hq];(try simp only [go_sem]);first|done|rfl)) ?_
 ·(simp only [go_sem];(try simp [hq]);done)
 intro J hJ
 rintro⟨⟨k,g⟩,hk0,hg,hRk⟩
 dsimp only at hk0 hg hRk;by_cases hlt:k<x.data.length
 ·have fx:=xei lay p.sizes x.data[k]! hl
  have fi:=xiu p.sizes q.args[1]!.region (q.args[1]!.offset+k);by_cases r0:(rawS lay p.sizes x.data[k]!).2=0;rotate_left
  ·obtain rfl:R=(g,false):=hRk.trans (xfx hlt (.inl r0))
   simp only [xez];refine zpq hq ?_;refine zst ?_;refine zcd (fx) ?_;refine xag 12 xa0 ?_;exact zfn
  rw [r0] at fx;by_cases i0:insS p.sizes q.args[1]!.region (q.args[1]!.offset+k);rotate_left
  ·obtain rfl:R=(g,false):=hRk.trans (xfx hlt (.inr i0))
   simp only [xez];refine zpq hq ?_;rw [decF i0] at fi;refine zst ?_;refine zcd (fx) ?_;refine zcd (fi) ?_;refine xag 12 xa0 ?_;exact zfn
  rw [decT i0] at fi;have fa:=xtr lay p.sizes q.args[1]!.region (q.args[1]!.offset+k) hl i0;obtain⟨a0,a1⟩:=xjf hl i0;obtain⟨i1,i2,i3,i4⟩:=id i0;have i5:=(hl.1.1 _ (xam (l:=p.sizes) (k:=q.args[1]!.region.toNat) (by omega))).2;have hrc:=hrd _ (xam (l:=x.data) (k:=k) hlt);have fs:=fun u=>xkt lay g hg (lay.bases[q.args[1]!.region.toNat]!+(q.args[1]!.offset+k)) a0 a1 (rawS lay p.sizes x.data[k]!).1 u;have hst2:=xif hg a0 a1 (xkw lay p.sizes hrc);have hnx:=hRk.trans (xpb hlt r0 i0);generalize xf1 g (lay.bases[q.args[1]!.region.toNat]!+(q.args[1]!.offset+k)) (rawS lay p.sizes x.data[k]!).1=g2 at fs hst2 hnx;refine zst ?_;refine zcd (fx) ?_;refine zcd (fi) ?_;refine zcd (fa) ?_;refine xga (xc8 0 [1,2,4,5,6,7] 3 0 2 (lB:=[layV false lay,.agg [.own 1 0,.own 2 0],.junk]) (x:=.tup []) (obB:=obFt g2) fs rfl rfl (by simp) rfl rfl rfl (fun u=>by simp only [go_sem]) (fun u=>by simp only [go_sem]) (by simp only [go_sem]) (by simp only [go_sem]) (by simp only [go_sem]) (by simp only [go_sem]) rfl (fun u=>by simp only [go_sem]) (by simp only [go_sem])) (by simp) rfl ?_;simp only [go_sem];refine zst ?_;refine xa7 true [0,1,2,3,4,5,6,7,8,9,10,11,12,13,14,15,16] [1,4,6,7,9,10,12,80,81,82] (by simp only [go_sem]) (by simp only [go_sem]) ?_;simp only [go_sem];have hk1:q.args[1]!.offset+((k+1:Nat):Int)=q.args[1]!.offset+k+1:=by omega
  refine xbw 17 (hJ _ (⟨(k+1,g2),hlt,hst2,by show R=putL lay p.sizes q.args[1]!.region (q.args[1]!.offset+((k+1:Nat):Int)) (x.data.drop (k+1)) g2;rw [hk1];exact hnx⟩) (by first|omega|(dsimp only;omega)|(simp;omega))) rfl (by simp) ?_ (by first|rfl|(simp only [go_sem];done)) (by first|rfl|(simp only [go_sem];done)|(simp only [hk1,hq,Int.add_assoc];(try simp only [go_sem]);first|done|rfl)) ?_
  ·(first|rfl|(simp only [go_sem];done)|(simp only [go_sem];simp only [hk1,hq,Int.add_assoc];done)|(simp only [hk1,hq,Int.add_assoc];done)|(simp only [go_sem];simp [hk1,hq,Int.add_assoc];done)|(simp [hk1,hq,Int.add_assoc];done))
  ·(simp only [go_sem];(repeat' (refine And.intro ?_ ?_))<;>first|exact trivial|with_reducible rfl|(simp only [hk1,hq,Int.add_assoc];done)|(simp only [hk1,hq,Int.add_assoc];with_reducible rfl)|(simp [hk1,hq,Int.add_assoc];done)|(simp [hk1,hq,Int.add_assoc];omega)|(simp only [hk1,hq,Int.add_assoc];rfl)|skip)
 obtain rfl:k=x.data.length:=by omega
 obtain rfl:R=(g,true):=hRk.trans (xlr (Nat.le_refl _));simp only [xuw];refine zpq hq ?_;refine zst ?_;exact zri xa0
end Go.Proofs.YtbgpfigkcpmnfaaGreat
