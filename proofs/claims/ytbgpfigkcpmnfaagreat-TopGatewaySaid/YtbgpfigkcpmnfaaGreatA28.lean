import Derived.Test.YtbgpfigkcpmnfaaGreatA26
import Derived.Test.YtbgpfigkcpmnfaaGreatA6
set_option linter.unusedSimpArgs false
set_option linter.unusedVariables false
set_option maxHeartbeats 64000000
set_option maxRecDepth 100000
namespace Go.Proofs.YtbgpfigkcpmnfaaGreat
open Go Go.RowKit Rdn Rdn.Dp
theorem ycn (p:PProg) (m:PMach) (C:Int) (h:okMach p C m) (q:Request) (hq:q.thread=1) (x:Rdn.Result) (k:PutOk p m 1 q x) (hb:¬(bufS q.call=2∧x.data≠[])):FncI Tryz.prog 113 (obM m) [xbn false p,.ptr 0 0 [] 0,reqV q,resV x] (fun y ob=>y=.bool (putS p m 1 q x).2∧ob=obM (putS p m 1 q x).1):=by
 obtain⟨lay,mem,thr⟩:=m;obtain⟨hp,hl,hm,hn,ht⟩:=h;obtain⟨t0,t1,t2,t3,rfl⟩:=four hn;dsimp only at hl hm ht;obtain⟨hst,c0,c1,hal,⟨sp0,sp1⟩,hxd,hrd,hra⟩:=k;simp only [List.getElem!_cons_zero,List.getElem!_cons_succ] at hst;have hx:=ht t1 (by simp);obtain⟨-,-,-,rl,-⟩:=hx;have hbl:=hl.2.1;have hk3:=xfr q.call;have fr:=xei lay p.sizes x.value hl;have fb:=xca q.call c0 c1;by_cases v0:(rawS lay p.sizes x.value).2=0;rotate_left
 ·rw [show putS p ⟨lay,mem,[t0,t1,t2,t3]⟩ 1 q x=(⟨lay,mem,[t0,t1,t2,t3]⟩,false) by unfold putS;exact if_pos v0]
  refine zpq hq ?_;refine zqi xa0 fun W lent S=>?_;refine zst ?_;refine zcd (fr) ?_;refine xag 12 xa0 ?_;exact zfn
 rw [v0] at fr;have hS:=xpd (t:=1) (xpc (p:=p) (m:=⟨lay,mem,[t0,t1,t2,t3]⟩) (x:=x) hb) v0;simp only [List.getElem!_cons_zero,List.getElem!_cons_succ] at hS;rw [hS];clear hS;by_cases e12:q.call=12
 ·have ha1:=ybw e12
  obtain⟨w0,w1⟩:=hra _ (xam (l:=q.args) (k:=0) (by omega));have hbz:=xkp (.inr e12);have e10:¬spnB q x:=fun e=>by have:=e.1;omega
  by_cases a0:q.args[0]!.val>255
  ·rw [if_pos (fun e=>by have:=(e.1 e12).1;omega)]
   refine zpq hq ?_;refine zqi xa0 fun W lent S=>?_;refine zst ?_;refine zcd (fr) ?_;refine zcd (fb) ?_;refine xag 12 xa0 ?_;exact zfn
  by_cases a1:q.args[0]!.tag=0;rotate_left
  ·rw [if_pos (fun e=>a1 (e.1 e12).2)]
   refine zpq hq ?_;refine zqi xa0 fun W lent S=>?_;refine zst ?_;refine zcd (fr) ?_;refine zcd (fb) ?_;refine xag 12 xa0 ?_;exact zfn
  rw [if_neg (not_not_intro ⟨fun _=>⟨by omega,a1⟩,fun e=>absurd e e10⟩)];simp only [putN,if_neg e10,putT,if_pos e12];refine zpq hq ?_;refine zqi xa0 fun W lent S=>?_;refine zst ?_;refine zcd (fr) ?_;refine zcd (fb) ?_;exact zri xa0
 by_cases e10:spnB q x;rotate_left
 ·rw [if_neg (not_not_intro ⟨fun e=>absurd e e12,fun e=>absurd e e10⟩)]
  simp only [putN,if_neg e10,putT,if_neg e12];refine zpq hq ?_;have e10:¬(q.call=10∧0≤x.spawn):=e10;by_cases hb2:bufS q.call=2
  ·have hdz:x.data.length=0:=Nat.eq_zero_of_not_pos fun e=>hb ⟨hb2,fun e2=>by rw [e2] at e;simp at e⟩
   have hcz:=xnj hb2;refine zqi xa0 fun W lent S=>?_;refine zst ?_;refine zcd (fr) ?_;refine zcd (fb) ?_;exact zri xa0
  by_cases c10:q.call=10
  ·have hsz:¬0≤x.spawn:=fun e=>e10 ⟨c10,e⟩
   refine zqi xa0 fun W lent S=>?_;refine zst ?_;refine zcd (fr) ?_;refine zcd (fb) ?_;exact zri xa0
  refine zqi xa0 fun W lent S=>?_;refine zst ?_;refine zcd (fr) ?_;refine zcd (fb) ?_;exact zri xa0
 obtain⟨e10,s0⟩:=id e10;have hspn:spnB q x:=⟨e10,s0⟩;have ha2:=ybv e10;obtain⟨w0,w1⟩:=hra _ (xam (l:=q.args) (k:=0) (by omega));have hbz:=xkp (.inl e10);have fr2:=xei lay p.sizes q.args[1]! hl;by_cases r0:(rawS lay p.sizes q.args[1]!).2=0;rotate_left
 ·rw [if_pos (fun e=>r0 (e.2 hspn).1)]
  refine zpq hq ?_;exact zp3 xa0 fr fb fr2
 rw [r0] at fr2;have ft:=xpq q.args[0]!.val (rawS lay p.sizes q.args[1]!).1;simp only [putN,if_pos hspn,putT,if_neg e12];have hsp:x.spawn=0∨x.spawn=1∨x.spawn=2∨x.spawn=3:=by omega
 rcases hsp with hsp|hsp|hsp|hsp
 ·by_cases z0:t0.state=0
  rotate_left
  ·rw [if_pos (fun e=>by have z:=(e.2 hspn).2.1;rw [hsp] at z;exact z0 z)]
   refine zpr hq hsp ?_;exact zp3 xa0 fr fb fr2
  by_cases a0:q.args[0]!.val>255
  ·rw [if_pos (fun e=>by have:=(e.2 hspn).2.2.1;omega)]
   refine zpr hq hsp ?_;exact zp3 xa0 fr fb fr2
  by_cases a1:q.args[0]!.tag=0;rotate_left
  ·rw [if_pos (fun e=>a1 (e.2 hspn).2.2.2)]
   refine zpr hq hsp ?_;exact zp3 xa0 fr fb fr2
  rw [if_neg (not_not_intro ⟨fun e=>absurd e e12,fun _=>⟨r0,by rw [hsp];exact z0,by omega,a1⟩⟩)];rw [hsp];simp only [Int.reduceToNat];refine zpr hq hsp ?_;refine zqi xa0 fun W lent S=>?_;refine zst ?_;refine zcd (fr) ?_;refine zcd (fb) ?_
  (first|refine xaj (fr2) ?_|refine xaa (fr2) ?_);refine zev ?_
  refine zsv ?_;refine xao (fu:=fu8) xap [] 0 rfl (by kernel_rfl) ?_;simp only [go_sem];refine zsv ?_;refine xao (fu:=fu8) xap [13] 1 rfl (by kernel_rfl) ?_;simp only [go_sem];refine zsg ?_;refine zcx (ft) ?_;refine xa7 true [0,1,2,3,4,5,6,7,17,9,10,11] [8] (by simp only [go_sem]) (by simp only [go_sem]) ?_;simp only [go_sem];exact zri xa0
 ·by_cases z0:t1.state=0
  rotate_left
  ·rw [if_pos (fun e=>by have z:=(e.2 hspn).2.1;rw [hsp] at z;exact z0 z)]
   refine zpr hq hsp ?_;exact zp3 xa0 fr fb fr2
  exact absurd (hst.symm.trans z0) (by decide)
 ·by_cases z0:t2.state=0
  rotate_left
  ·rw [if_pos (fun e=>by have z:=(e.2 hspn).2.1;rw [hsp] at z;exact z0 z)]
   refine zpr hq hsp ?_;exact zp3 xa0 fr fb fr2
  by_cases a0:q.args[0]!.val>255
  ·rw [if_pos (fun e=>by have:=(e.2 hspn).2.2.1;omega)]
   refine zpr hq hsp ?_;exact zp3 xa0 fr fb fr2
  by_cases a1:q.args[0]!.tag=0;rotate_left
  ·rw [if_pos (fun e=>a1 (e.2 hspn).2.2.2)]
   refine zpr hq hsp ?_;exact zp3 xa0 fr fb fr2
  rw [if_neg (not_not_intro ⟨fun e=>absurd e e12,fun _=>⟨r0,by rw [hsp];exact z0,by omega,a1⟩⟩)];rw [hsp];simp only [Int.reduceToNat];refine zpr hq hsp ?_;refine zqi xa0 fun W lent S=>?_;refine zst ?_;refine zcd (fr) ?_;refine zcd (fb) ?_
  (first|refine xaj (fr2) ?_|refine xaa (fr2) ?_);refine zev ?_
  refine zsv ?_;refine xao (fu:=fu8) xap [] 0 rfl (by kernel_rfl) ?_;simp only [go_sem];refine zsv ?_;refine xao (fu:=fu8) xap [13] 1 rfl (by kernel_rfl) ?_;simp only [go_sem];refine zsg ?_;refine zcx (ft) ?_;refine xa7 true [0,1,2,3,4,5,6,7,8,9,17,11] [8] (by simp only [go_sem]) (by simp only [go_sem]) ?_;simp only [go_sem];exact zri xa0
 ·by_cases z0:t3.state=0
  rotate_left
  ·rw [if_pos (fun e=>by have z:=(e.2 hspn).2.1;rw [hsp] at z;exact z0 z)]
   refine zpr hq hsp ?_;exact zp3 xa0 fr fb fr2
  by_cases a0:q.args[0]!.val>255
  ·rw [if_pos (fun e=>by have:=(e.2 hspn).2.2.1;omega)]
   refine zpr hq hsp ?_;exact zp3 xa0 fr fb fr2
  by_cases a1:q.args[0]!.tag=0;rotate_left
  ·rw [if_pos (fun e=>a1 (e.2 hspn).2.2.2)]
   refine zpr hq hsp ?_;exact zp3 xa0 fr fb fr2
  rw [if_neg (not_not_intro ⟨fun e=>absurd e e12,fun _=>⟨r0,by rw [hsp];exact z0,by omega,a1⟩⟩)];rw [hsp];simp only [Int.reduceToNat];refine zpr hq hsp ?_;refine zqi xa0 fun W lent S=>?_;refine zst ?_;refine zcd (fr) ?_;refine zcd (fb) ?_
  (first|refine xaj (fr2) ?_|refine xaa (fr2) ?_);refine zev ?_
  refine zsv ?_;refine xao (fu:=fu8) xap [] 0 rfl (by kernel_rfl) ?_;simp only [go_sem];refine zsv ?_;refine xao (fu:=fu8) xap [13] 1 rfl (by kernel_rfl) ?_;simp only [go_sem];refine zsg ?_;refine zcx (ft) ?_;refine xa7 true [0,1,2,3,4,5,6,7,8,9,10,17] [8] (by simp only [go_sem]) (by simp only [go_sem]) ?_;simp only [go_sem];exact zri xa0
end Go.Proofs.YtbgpfigkcpmnfaaGreat
