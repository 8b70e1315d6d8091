import Derived.Test.YthmjocibdepahaaGreatA22
set_option linter.unusedSimpArgs false
set_option linter.unusedVariables false
set_option maxHeartbeats 64000000
set_option maxRecDepth 100000
namespace Go.Proofs.YthmjocibdepahaaGreat
open Go Go.RowKit Rdn Rdn.Dp
theorem yc7 {p:PProg} {m:PMach} {t:Nat} {q:Request} {x:Rdn.Result} (v0:(iD m.lay p.sizes x.value).2≠0):sG p m t q x=(m,false):=if_pos v0
theorem ys6 (p:PProg) (m:PMach) (C:Int) (h:okMach p C m) (t:Nat) (ht:t<4) (q:Request) (hq:q.thread=t) (x:Rdn.Result) (k:PutOk p m t q x) (hb:¬(iO q.call=2∧x.data≠[])):FncI Tryz.prog 206 (iJ m) [dM false p,.ptr 0 0 [] 0,eP q,eX x] (fun y ob=>y=.bool (sG p m t q x).2∧ob=iJ (sG p m t q x).1):=by
 have hl:=h.lay;have hm:=h.mem;have hn:=h.n;have rl:=(mP h ht).2.2.2.1;obtain⟨hst,c0,c1,hal,⟨sp0,sp1⟩,hxd,hrd,hra⟩:=k;clear h;have hbl:=hl.2.1;have hk3:=xdx q.call;have fr:=xfe m.lay p.sizes x.value hl;have fb:=xO q.call c0 c1;by_cases v0:(iD m.lay p.sizes x.value).2=0;rotate_left
 ·rw [yc7 v0]
  obtain⟨lay,mem,thr⟩:=m;obtain⟨t0,t1,t2,t3,rfl⟩:=gQ hn;rcases(show(t=0∧q.thread=0)∨(t=1∧q.thread=1)∨(t=2∧q.thread=2)∨(t=3∧q.thread=3) by omega) with ⟨rfl,hq⟩|⟨rfl,hq⟩|⟨rfl,hq⟩|⟨rfl,hq⟩
  all_goals
   simp only [List.getElem!_cons_zero,List.getElem!_cons_succ] at hst rl;simp only [eP,eX,hq,PMach.setT,kN,kT,iQ,lV,iJ,dN,bP,eQ,List.getElem!_cons_zero,List.getElem!_cons_succ,List.set_cons_zero,List.set_cons_succ];refine dG iP fun W lent S=>?_;refine aA ?_;refine aF (fr) ?_;refine gZ 12 iP ?_;exact fP
 rw [v0] at fr;rw [ys0 (yru hb) v0];by_cases e12:q.call=12
 ·have ha1:=ymz e12
  obtain⟨w0,w1⟩:=hra _ (dJ (l:=q.args) (k:=0) ω);have hbz:=xu1 (.inr e12);have e10:¬xda q x:=fun e=>by have:=e.1;omega
  by_cases a0:q.args[0]!.val>255
  ·rw [if_pos (fun e=>by have:=(e.1 e12).1;omega)]
   obtain⟨lay,mem,thr⟩:=m;obtain⟨t0,t1,t2,t3,rfl⟩:=gQ hn;rcases(show(t=0∧q.thread=0)∨(t=1∧q.thread=1)∨(t=2∧q.thread=2)∨(t=3∧q.thread=3) by omega) with ⟨rfl,hq⟩|⟨rfl,hq⟩|⟨rfl,hq⟩|⟨rfl,hq⟩
   all_goals
    simp only [List.getElem!_cons_zero,List.getElem!_cons_succ] at hst rl;simp only [eP,eX,hq,PMach.setT,kN,kT,iQ,lV,iJ,dN,bP,eQ,List.getElem!_cons_zero,List.getElem!_cons_succ,List.set_cons_zero,List.set_cons_succ];refine dG iP fun W lent S=>?_;refine aA ?_;refine jC fr fb ?_;refine gZ 12 iP ?_;exact fP
  by_cases a1:q.args[0]!.tag=0;rotate_left
  ·rw [if_pos (fun e=>a1 (e.1 e12).2)]
   obtain⟨lay,mem,thr⟩:=m;obtain⟨t0,t1,t2,t3,rfl⟩:=gQ hn;rcases(show(t=0∧q.thread=0)∨(t=1∧q.thread=1)∨(t=2∧q.thread=2)∨(t=3∧q.thread=3) by omega) with ⟨rfl,hq⟩|⟨rfl,hq⟩|⟨rfl,hq⟩|⟨rfl,hq⟩
   all_goals
    simp only [List.getElem!_cons_zero,List.getElem!_cons_succ] at hst rl;simp only [eP,eX,hq,PMach.setT,kN,kT,iQ,lV,iJ,dN,bP,eQ,List.getElem!_cons_zero,List.getElem!_cons_succ,List.set_cons_zero,List.set_cons_succ];refine dG iP fun W lent S=>?_;refine aA ?_;refine jC fr fb ?_;refine gZ 12 iP ?_;exact fP
  rw [if_neg (not_not_intro ⟨fun _=>⟨ω,a1⟩,fun e=>absurd e e10⟩)];simp only [xd2,if_neg e10,kN,if_pos e12];obtain⟨lay,mem,thr⟩:=m;obtain⟨t0,t1,t2,t3,rfl⟩:=gQ hn;rcases(show(t=0∧q.thread=0)∨(t=1∧q.thread=1)∨(t=2∧q.thread=2)∨(t=3∧q.thread=3) by omega) with ⟨rfl,hq⟩|⟨rfl,hq⟩|⟨rfl,hq⟩|⟨rfl,hq⟩
  all_goals
   simp only [List.getElem!_cons_zero,List.getElem!_cons_succ] at hst rl;simp only [eP,eX,hq,PMach.setT,kN,kT,iQ,lV,iJ,dN,bP,eQ,List.getElem!_cons_zero,List.getElem!_cons_succ,List.set_cons_zero,List.set_cons_succ];refine dG iP fun W lent S=>?_;refine aA ?_;refine jC fr fb ?_;exact vX iP
 by_cases e10:xda q x;rotate_left
 ·rw [if_neg (not_not_intro ⟨fun e=>absurd e e12,fun e=>absurd e e10⟩)]
  simp only [xd2,if_neg e10,kN,if_neg e12];have e10:¬(q.call=10∧0≤x.spawn):=e10;by_cases hb2:iO q.call=2
  ·have hdz:x.data.length=0:=Nat.eq_zero_of_not_pos fun e=>hb ⟨hb2,fun e2=>by rw [e2] at e;simp at e⟩
   have hcz:=xk6 hb2;obtain⟨lay,mem,thr⟩:=m;obtain⟨t0,t1,t2,t3,rfl⟩:=gQ hn;rcases(show(t=0∧q.thread=0)∨(t=1∧q.thread=1)∨(t=2∧q.thread=2)∨(t=3∧q.thread=3) by omega) with ⟨rfl,hq⟩|⟨rfl,hq⟩|⟨rfl,hq⟩|⟨rfl,hq⟩
   all_goals
    simp only [List.getElem!_cons_zero,List.getElem!_cons_succ] at hst rl;simp only [eP,eX,hq,PMach.setT,kN,kT,iQ,lV,iJ,dN,bP,eQ,List.getElem!_cons_zero,List.getElem!_cons_succ,List.set_cons_zero,List.set_cons_succ];refine dG iP fun W lent S=>?_;refine aA ?_;refine jC fr fb ?_;exact vX iP
  by_cases c10:q.call=10
  ·have hsz:¬0≤x.spawn:=fun e=>e10 ⟨c10,e⟩
   obtain⟨lay,mem,thr⟩:=m;obtain⟨t0,t1,t2,t3,rfl⟩:=gQ hn;rcases(show(t=0∧q.thread=0)∨(t=1∧q.thread=1)∨(t=2∧q.thread=2)∨(t=3∧q.thread=3) by omega) with ⟨rfl,hq⟩|⟨rfl,hq⟩|⟨rfl,hq⟩|⟨rfl,hq⟩
   all_goals
    simp only [List.getElem!_cons_zero,List.getElem!_cons_succ] at hst rl;simp only [eP,eX,hq,PMach.setT,kN,kT,iQ,lV,iJ,dN,bP,eQ,List.getElem!_cons_zero,List.getElem!_cons_succ,List.set_cons_zero,List.set_cons_succ];refine dG iP fun W lent S=>?_;refine aA ?_;refine jC fr fb ?_;exact vX iP
  obtain⟨lay,mem,thr⟩:=m;obtain⟨t0,t1,t2,t3,rfl⟩:=gQ hn;rcases(show(t=0∧q.thread=0)∨(t=1∧q.thread=1)∨(t=2∧q.thread=2)∨(t=3∧q.thread=3) by omega) with ⟨rfl,hq⟩|⟨rfl,hq⟩|⟨rfl,hq⟩|⟨rfl,hq⟩
  all_goals
   simp only [List.getElem!_cons_zero,List.getElem!_cons_succ] at hst rl;simp only [eP,eX,hq,PMach.setT,kN,kT,iQ,lV,iJ,dN,bP,eQ,List.getElem!_cons_zero,List.getElem!_cons_succ,List.set_cons_zero,List.set_cons_succ];refine dG iP fun W lent S=>?_;refine aA ?_;refine jC fr fb ?_;exact vX iP
 obtain⟨e10,s0⟩:=id e10;have hspn:xda q x:=⟨e10,s0⟩;have ha2:=ymy e10;obtain⟨w0,w1⟩:=hra _ (dJ (l:=q.args) (k:=0) ω);have hbz:=xu1 (.inl e10);have fr2:=xfe m.lay p.sizes q.args[1]! hl;by_cases r0:(iD m.lay p.sizes q.args[1]!).2=0;rotate_left
 ·rw [if_pos (fun e=>r0 (e.2 hspn).1)]
  obtain⟨lay,mem,thr⟩:=m;obtain⟨t0,t1,t2,t3,rfl⟩:=gQ hn;rcases(show(t=0∧q.thread=0)∨(t=1∧q.thread=1)∨(t=2∧q.thread=2)∨(t=3∧q.thread=3) by omega) with ⟨rfl,hq⟩|⟨rfl,hq⟩|⟨rfl,hq⟩|⟨rfl,hq⟩
  all_goals
   simp only [List.getElem!_cons_zero,List.getElem!_cons_succ] at hst rl;simp only [eP,eX,hq,PMach.setT,kN,kT,iQ,lV,iJ,dN,bP,eQ,List.getElem!_cons_zero,List.getElem!_cons_succ,List.set_cons_zero,List.set_cons_succ];refine dG iP fun W lent S=>?_;refine aA ?_;refine wU fr fb fr2 ?_;refine gZ 12 iP ?_;exact fP
 rw [r0] at fr2;have ft:=ywn q.args[0]!.val (iD m.lay p.sizes q.args[1]!).1;simp only [xd2,if_pos hspn,kN,if_neg e12];by_cases z0:m.thr[x.spawn.toNat]!.state=0;rotate_left
 ·rw [if_pos (fun e=>z0 (e.2 hspn).2.1)]
  rcases(show x.spawn=0∨x.spawn=1∨x.spawn=2∨x.spawn=3 by omega) with hsp|hsp|hsp|hsp
  all_goals
   obtain⟨lay,mem,thr⟩:=m;obtain⟨t0,t1,t2,t3,rfl⟩:=gQ hn;rcases(show(t=0∧q.thread=0)∨(t=1∧q.thread=1)∨(t=2∧q.thread=2)∨(t=3∧q.thread=3) by omega) with ⟨rfl,hq⟩|⟨rfl,hq⟩|⟨rfl,hq⟩|⟨rfl,hq⟩
   all_goals
    simp only [List.getElem!_cons_zero,List.getElem!_cons_succ] at hst rl;simp only [hsp,Int.reduceToNat,List.getElem!_cons_zero,List.getElem!_cons_succ] at z0
    try (exact absurd (hst.symm.trans z0) δ)
   all_goals
    simp only [eP,eX,hq,hsp,PMach.setT,kN,kT,iQ,lV,iJ,dN,bP,eQ,List.getElem!_cons_zero,List.getElem!_cons_succ,List.set_cons_zero,List.set_cons_succ];refine dG iP fun W lent S=>?_;refine aA ?_;refine wU fr fb fr2 ?_;refine gZ 12 iP ?_;exact fP
 by_cases a0:q.args[0]!.val>255
 ·rw [if_pos (fun e=>by have:=(e.2 hspn).2.2.1;omega)]
  rcases(show x.spawn=0∨x.spawn=1∨x.spawn=2∨x.spawn=3 by omega) with hsp|hsp|hsp|hsp
  all_goals
   obtain⟨lay,mem,thr⟩:=m;obtain⟨t0,t1,t2,t3,rfl⟩:=gQ hn;rcases(show(t=0∧q.thread=0)∨(t=1∧q.thread=1)∨(t=2∧q.thread=2)∨(t=3∧q.thread=3) by omega) with ⟨rfl,hq⟩|⟨rfl,hq⟩|⟨rfl,hq⟩|⟨rfl,hq⟩
   all_goals
    simp only [List.getElem!_cons_zero,List.getElem!_cons_succ] at hst rl;simp only [hsp,Int.reduceToNat,List.getElem!_cons_zero,List.getElem!_cons_succ] at z0
    try (exact absurd (hst.symm.trans z0) δ)
   all_goals
    simp only [eP,eX,hq,hsp,PMach.setT,kN,kT,iQ,lV,iJ,dN,bP,eQ,List.getElem!_cons_zero,List.getElem!_cons_succ,List.set_cons_zero,List.set_cons_succ];refine dG iP fun W lent S=>?_;refine aA ?_;refine wU fr fb fr2 ?_;refine gZ 12 iP ?_;exact fP
 by_cases a1:q.args[0]!.tag=0;rotate_left
 ·rw [if_pos (fun e=>a1 (e.2 hspn).2.2.2)]
  rcases(show x.spawn=0∨x.spawn=1∨x.spawn=2∨x.spawn=3 by omega) with hsp|hsp|hsp|hsp
  all_goals
   obtain⟨lay,mem,thr⟩:=m;obtain⟨t0,t1,t2,t3,rfl⟩:=gQ hn;rcases(show(t=0∧q.thread=0)∨(t=1∧q.thread=1)∨(t=2∧q.thread=2)∨(t=3∧q.thread=3) by omega) with ⟨rfl,hq⟩|⟨rfl,hq⟩|⟨rfl,hq⟩|⟨rfl,hq⟩
   all_goals
    simp only [List.getElem!_cons_zero,List.getElem!_cons_succ] at hst rl;simp only [hsp,Int.reduceToNat,List.getElem!_cons_zero,List.getElem!_cons_succ] at z0
    try (exact absurd (hst.symm.trans z0) δ)
   all_goals
    simp only [eP,eX,hq,hsp,PMach.setT,kN,kT,iQ,lV,iJ,dN,bP,eQ,List.getElem!_cons_zero,List.getElem!_cons_succ,List.set_cons_zero,List.set_cons_succ];refine dG iP fun W lent S=>?_;refine aA ?_;refine wU fr fb fr2 ?_;refine gZ 12 iP ?_;exact fP
 rw [if_neg (not_not_intro ⟨fun e=>absurd e e12,fun _=>⟨r0,z0,ω,a1⟩⟩)];rcases(show x.spawn=0∨x.spawn=1∨x.spawn=2∨x.spawn=3 by omega) with hsp|hsp|hsp|hsp
 ·rw [show x.spawn.toNat=0 by rw [hsp];rfl]
  obtain⟨lay,mem,thr⟩:=m;obtain⟨t0,t1,t2,t3,rfl⟩:=gQ hn;rcases(show(t=0∧q.thread=0)∨(t=1∧q.thread=1)∨(t=2∧q.thread=2)∨(t=3∧q.thread=3) by omega) with ⟨rfl,hq⟩|⟨rfl,hq⟩|⟨rfl,hq⟩|⟨rfl,hq⟩
  all_goals
   simp only [List.getElem!_cons_zero,List.getElem!_cons_succ] at hst rl;simp only [hsp,Int.reduceToNat,List.getElem!_cons_zero,List.getElem!_cons_succ] at z0
   try (exact absurd (hst.symm.trans z0) δ)
  all_goals
   simp only [eP,eX,hq,hsp,PMach.setT,kN,kT,iQ,lV,iJ,dN,bP,eQ,List.getElem!_cons_zero,List.getElem!_cons_succ,List.set_cons_zero,List.set_cons_succ];refine dG iP fun W lent S=>?_;refine aA ?_;refine jC fr fb ?_;refine bZ (fr2) ?_;refine mX ?_;refine iL (fu:=oM) aT [] 0 rfl κ ?_;simp only [go_sem];refine mX ?_;refine iL (fu:=oM) aT [13] 1 rfl κ ?_;simp only [go_sem];refine zsg ?_;refine dD (ft) ?_;refine dS true [0,1,2,3,4,5,6,7,17,9,10,11] [8] χ χ ?_;simp only [go_sem];exact vX iP
 ·rw [show x.spawn.toNat=1 by rw [hsp];rfl]
  obtain⟨lay,mem,thr⟩:=m;obtain⟨t0,t1,t2,t3,rfl⟩:=gQ hn;rcases(show(t=0∧q.thread=0)∨(t=1∧q.thread=1)∨(t=2∧q.thread=2)∨(t=3∧q.thread=3) by omega) with ⟨rfl,hq⟩|⟨rfl,hq⟩|⟨rfl,hq⟩|⟨rfl,hq⟩
  all_goals
   simp only [List.getElem!_cons_zero,List.getElem!_cons_succ] at hst rl;simp only [hsp,Int.reduceToNat,List.getElem!_cons_zero,List.getElem!_cons_succ] at z0
   try (exact absurd (hst.symm.trans z0) δ)
  all_goals
   simp only [eP,eX,hq,hsp,PMach.setT,kN,kT,iQ,lV,iJ,dN,bP,eQ,List.getElem!_cons_zero,List.getElem!_cons_succ,List.set_cons_zero,List.set_cons_succ];refine dG iP fun W lent S=>?_;refine aA ?_;refine jC fr fb ?_;refine bZ (fr2) ?_;refine mX ?_;refine iL (fu:=oM) aT [] 0 rfl κ ?_;simp only [go_sem];refine mX ?_;refine iL (fu:=oM) aT [13] 1 rfl κ ?_;simp only [go_sem];refine zsg ?_;refine dD (ft) ?_;refine dS true [0,1,2,3,4,5,6,7,8,17,10,11] [8] χ χ ?_;simp only [go_sem];exact vX iP
 ·rw [show x.spawn.toNat=2 by rw [hsp];rfl]
  obtain⟨lay,mem,thr⟩:=m;obtain⟨t0,t1,t2,t3,rfl⟩:=gQ hn;rcases(show(t=0∧q.thread=0)∨(t=1∧q.thread=1)∨(t=2∧q.thread=2)∨(t=3∧q.thread=3) by omega) with ⟨rfl,hq⟩|⟨rfl,hq⟩|⟨rfl,hq⟩|⟨rfl,hq⟩
  all_goals
   simp only [List.getElem!_cons_zero,List.getElem!_cons_succ] at hst rl;simp only [hsp,Int.reduceToNat,List.getElem!_cons_zero,List.getElem!_cons_succ] at z0
   try (exact absurd (hst.symm.trans z0) δ)
  all_goals
   simp only [eP,eX,hq,hsp,PMach.setT,kN,kT,iQ,lV,iJ,dN,bP,eQ,List.getElem!_cons_zero,List.getElem!_cons_succ,List.set_cons_zero,List.set_cons_succ];refine dG iP fun W lent S=>?_;refine aA ?_;refine jC fr fb ?_;refine bZ (fr2) ?_;refine mX ?_;refine iL (fu:=oM) aT [] 0 rfl κ ?_;simp only [go_sem];refine mX ?_;refine iL (fu:=oM) aT [13] 1 rfl κ ?_;simp only [go_sem];refine zsg ?_;refine dD (ft) ?_;refine dS true [0,1,2,3,4,5,6,7,8,9,17,11] [8] χ χ ?_;simp only [go_sem];exact vX iP
 ·rw [show x.spawn.toNat=3 by rw [hsp];rfl]
  obtain⟨lay,mem,thr⟩:=m;obtain⟨t0,t1,t2,t3,rfl⟩:=gQ hn;rcases(show(t=0∧q.thread=0)∨(t=1∧q.thread=1)∨(t=2∧q.thread=2)∨(t=3∧q.thread=3) by omega) with ⟨rfl,hq⟩|⟨rfl,hq⟩|⟨rfl,hq⟩|⟨rfl,hq⟩
  all_goals
   simp only [List.getElem!_cons_zero,List.getElem!_cons_succ] at hst rl;simp only [hsp,Int.reduceToNat,List.getElem!_cons_zero,List.getElem!_cons_succ] at z0
   try (exact absurd (hst.symm.trans z0) δ)
  all_goals
   simp only [eP,eX,hq,hsp,PMach.setT,kN,kT,iQ,lV,iJ,dN,bP,eQ,List.getElem!_cons_zero,List.getElem!_cons_succ,List.set_cons_zero,List.set_cons_succ];refine dG iP fun W lent S=>?_;refine aA ?_;refine jC fr fb ?_;refine bZ (fr2) ?_;refine mX ?_;refine iL (fu:=oM) aT [] 0 rfl κ ?_;simp only [go_sem];refine mX ?_;refine iL (fu:=oM) aT [13] 1 rfl κ ?_;simp only [go_sem];refine zsg ?_;refine dD (ft) ?_;refine dS true [0,1,2,3,4,5,6,7,8,9,10,17] [8] χ χ ?_;simp only [go_sem];exact vX iP
theorem ys5 (p:PProg) (m:PMach) (C:Int) (h:okMach p C m) (t:Nat) (ht:t<4) (q:Request) (hq:q.thread=t) (x:Rdn.Result) (k:PutOk p m t q x) (hb:(iO q.call=2∧x.data≠[])):FncI Tryz.prog 206 (iJ m) [dM false p,.ptr 0 0 [] 0,eP q,eX x] (fun y ob=>y=.bool (sG p m t q x).2∧ob=iJ (sG p m t q x).1):=by
 have hl:=h.lay;have hm:=h.mem;have hn:=h.n;have rl:=(mP h ht).2.2.2.1;obtain⟨hst,c0,c1,hal,⟨sp0,sp1⟩,hxd,hrd,hra⟩:=k;clear h;have hbl:=hl.2.1;have hk3:=xdx q.call;have fr:=xfe m.lay p.sizes x.value hl;have fb:=xO q.call c0 c1;by_cases v0:(iD m.lay p.sizes x.value).2=0;rotate_left
 ·rw [yc7 v0]
  obtain⟨lay,mem,thr⟩:=m;obtain⟨t0,t1,t2,t3,rfl⟩:=gQ hn;rcases(show(t=0∧q.thread=0)∨(t=1∧q.thread=1)∨(t=2∧q.thread=2)∨(t=3∧q.thread=3) by omega) with ⟨rfl,hq⟩|⟨rfl,hq⟩|⟨rfl,hq⟩|⟨rfl,hq⟩
  all_goals
   simp only [List.getElem!_cons_zero,List.getElem!_cons_succ] at hst rl;simp only [eP,eX,hq,PMach.setT,kN,kT,iQ,lV,iJ,dN,bP,eQ,List.getElem!_cons_zero,List.getElem!_cons_succ,List.set_cons_zero,List.set_cons_succ];refine dG iP fun W lent S=>?_;refine aA ?_;refine aF (fr) ?_;refine gZ 12 iP ?_;exact fP
 rw [v0] at fr;have hM:=yrw (p:=p) (m:=m) hb;have hS:=yrz (p:=p) (m:=m) (t:=t) (x:=x) hb.1 v0;rw [hM] at hS;rw [hS];clear hS hM;obtain⟨hb2,hdn⟩:=hb;have ha3:=xxh hb2;have hcz:=xk6 hb2;have fV:x.data.length>0:=List.length_pos_iff.2 hdn;rw [hb2] at fb;have fp:=xms p.sizes q.args[1]!;by_cases p0:mJ p.sizes q.args[1]!;rotate_left
 ·rw [if_pos (.inl p0),xmw]
  rw [aJ p0] at fp;obtain⟨lay,mem,thr⟩:=m;obtain⟨t0,t1,t2,t3,rfl⟩:=gQ hn;rcases(show(t=0∧q.thread=0)∨(t=1∧q.thread=1)∨(t=2∧q.thread=2)∨(t=3∧q.thread=3) by omega) with ⟨rfl,hq⟩|⟨rfl,hq⟩|⟨rfl,hq⟩|⟨rfl,hq⟩
  all_goals
   simp only [List.getElem!_cons_zero,List.getElem!_cons_succ] at hst rl;simp only [eP,eX,hq,PMach.setT,kN,kT,iQ,lV,iJ,dN,bP,eQ,List.getElem!_cons_zero,List.getElem!_cons_succ,List.set_cons_zero,List.set_cons_succ];refine dG iP fun W lent S=>?_;refine aA ?_;refine wU fr fb fp ?_;refine gZ 12 iP ?_;exact fP
 rw [aN p0] at fp;by_cases p1:q.args[1]!.tag=1;rotate_left
 ·rw [if_pos (.inr p1),xmw]
  obtain⟨lay,mem,thr⟩:=m;obtain⟨t0,t1,t2,t3,rfl⟩:=gQ hn;rcases(show(t=0∧q.thread=0)∨(t=1∧q.thread=1)∨(t=2∧q.thread=2)∨(t=3∧q.thread=3) by omega) with ⟨rfl,hq⟩|⟨rfl,hq⟩|⟨rfl,hq⟩|⟨rfl,hq⟩
  all_goals
   simp only [List.getElem!_cons_zero,List.getElem!_cons_succ] at hst rl;simp only [eP,eX,hq,PMach.setT,kN,kT,iQ,lV,iJ,dN,bP,eQ,List.getElem!_cons_zero,List.getElem!_cons_succ,List.set_cons_zero,List.set_cons_succ];refine dG iP fun W lent S=>?_;refine aA ?_;refine wU fr fb fp ?_;refine gZ 12 iP ?_;exact fP
 rw [if_neg (fun e=>e.elim (fun a=>a p0) fun a=>a p1)];obtain⟨R,hR⟩:∃R,R=vT m.lay p.sizes q.args[1]!.region q.args[1]!.offset x.data m.mem:=⟨_,rfl⟩;have hR0:R=vT m.lay p.sizes q.args[1]!.region (q.args[1]!.offset+((0:Nat):Int)) (x.data.drop 0) m.mem:=by rw [Int.natCast_zero,Int.add_zero,List.drop_zero];exact hR
 rw [←hR];clear hR;obtain⟨lay,mem,thr⟩:=m;obtain⟨t0,t1,t2,t3,rfl⟩:=gQ hn;rcases(show(t=0∧q.thread=0)∨(t=1∧q.thread=1)∨(t=2∧q.thread=2)∨(t=3∧q.thread=3) by omega) with ⟨rfl,hq⟩|⟨rfl,hq⟩|⟨rfl,hq⟩|⟨rfl,hq⟩
 all_goals
  simp only [List.getElem!_cons_zero,List.getElem!_cons_succ] at hst rl;simp only [eP,eX,hq,PMach.setT,kN,kT,iQ,lV,iJ,dN,bP,eQ,List.getElem!_cons_zero,List.getElem!_cons_succ,List.set_cons_zero,List.set_cons_succ];dsimp only at hR0 hl hm hbl fr;refine dG iP fun W lent S=>?_;refine aA ?_;refine wU fr fb fp ?_;refine dS true [0,1,2,3,4,5,6,7,8,9,10,11,12,13,14,15,16] [1,4,6,7,8,9,10,12,80,81,82] χ χ ?_;simp only [go_sem];refine gY [1,4,6,7,9,10,12,80,81] (fun q1:{q1:Nat×PMem // q1.1≤x.data.length∧nJ q1.2∧R=vT lay p.sizes q.args[1]!.region (q.args[1]!.offset+q1.1) (x.data.drop q1.1) q1.2}=>[(82,.int .i64 q1.1.1)]) (fun q1=>iJ ⟨lay,q1.1.2,[t0,t1,t2,t3]⟩++[⟨.box false 30,true,0,dM false p⟩,⟨.box false 241,true,0,eP q⟩,⟨.box false 243,true,0,eX x⟩,⟨.box false 117,true,0,bC (iD lay p.sizes x.value).1⟩,⟨.box false 120,true,0,.agg [.int .i64 q.args[1]!.region,.int .i64 (q.args[1]!.offset+q1.1.1)]⟩]) (fun q1=>x.data.length-q1.1.1) (⟨(0,mem),ω,hm,hR0⟩) 17 τ ?_ (by first|rfl|(simp only [go_sem];done)|(simp only [go_sem];simp [hq];done)) ξ φ φ (by first|rfl|(simp only [go_sem];done)|(simp only [hq];(try simp only [go_sem]);first|done|rfl)) ?_
  ·(simp only [go_sem];(try simp [hq]);done)
  intro J hJ
  rintro⟨⟨k,g⟩,hk0,hg,hRk⟩
  dsimp only at hk0 hg hRk;by_cases hlt:k<x.data.length
  ·have fx:=xfe lay p.sizes x.data[k]! hl
   have fi:=xl8 p.sizes q.args[1]!.region (q.args[1]!.offset+k);by_cases r0:(iD lay p.sizes x.data[k]!).2=0;rotate_left
   ·obtain rfl:R=(g,false):=hRk.trans (yc5 hlt (.inl r0))
    simp only [xmw];simp only [eP,eX,hq,PMach.setT,kN,kT,iQ,lV,iJ,dN,bP,eQ,List.getElem!_cons_zero,List.getElem!_cons_succ,List.set_cons_zero,List.set_cons_succ];refine aA ?_;refine aF (fx) ?_;refine gZ 12 iP ?_;exact fP
   rw [r0] at fx;by_cases i0:nG p.sizes q.args[1]!.region (q.args[1]!.offset+k);rotate_left
   ·obtain rfl:R=(g,false):=hRk.trans (yc5 hlt (.inr i0))
    simp only [xmw];simp only [eP,eX,hq,PMach.setT,kN,kT,iQ,lV,iJ,dN,bP,eQ,List.getElem!_cons_zero,List.getElem!_cons_succ,List.set_cons_zero,List.set_cons_succ];rw [aJ i0] at fi;refine aA ?_;refine jC fx fi ?_;refine gZ 12 iP ?_;exact fP
   rw [aN i0] at fi;have fa:=yfr lay p.sizes q.args[1]!.region (q.args[1]!.offset+k) hl i0;obtain⟨a0,a1⟩:=xx7 hl i0;obtain⟨i1,i2,i3,i4⟩:=id i0;have i5:=(hl.1.1 _ (dJ (l:=p.sizes) (k:=q.args[1]!.region.toNat) ω)).2;have hrc:=hrd _ (dJ (l:=x.data) (k:=k) hlt);have fs:=fun u=>xv1 lay g hg (lay.bases[q.args[1]!.region.toNat]!+(q.args[1]!.offset+k)) a0 a1 (iD lay p.sizes x.data[k]!).1 u;have hst2:=xt0 hg a0 a1 (xff lay p.sizes hrc);have hnx:=hRk.trans (yrt hlt r0 i0);generalize xcf g (lay.bases[q.args[1]!.region.toNat]!+(q.args[1]!.offset+k)) (iD lay p.sizes x.data[k]!).1=g2 at fs hst2 hnx;refine aA ?_;refine wU fx fi fa ?_;refine xic (xl3 0 [1,2,4,5,6,7] 3 0 2 (lB:=[dQ false lay,.agg [.own 1 0,.own 2 0],.junk]) (x:=.tup []) (obB:=xrd g2) fs rfl rfl ξ rfl rfl rfl (fun u=>by simp only [go_sem]) (fun u=>by simp only [go_sem]) χ χ χ χ rfl (fun u=>by simp only [go_sem]) χ) ξ rfl ?_;simp only [go_sem];refine aA ?_;refine dS true [0,1,2,3,4,5,6,7,8,9,10,11,12,13,14,15,16] [1,4,6,7,9,10,12,80,81,82] χ χ ?_;simp only [go_sem];have hk1:q.args[1]!.offset+((k+1:Nat):Int)=q.args[1]!.offset+k+1:=ω;refine lI 17 (hJ _ (⟨(k+1,g2),hlt,hst2,by show R=vT lay p.sizes q.args[1]!.region (q.args[1]!.offset+((k+1:Nat):Int)) (x.data.drop (k+1)) g2;rw [hk1];exact hnx⟩) ψ) rfl ξ ?_ φ (by first|rfl|(simp only [go_sem];done)|(simp only [hk1,hq,Int.add_assoc];(try simp only [go_sem]);first|done|rfl)) ?_
   ·(first|rfl|(simp only [go_sem];done)|(simp only [go_sem];simp only [hk1,hq,Int.add_assoc];done)|(simp only [hk1,hq,Int.add_assoc];done)|(simp only [go_sem];simp [hk1,hq,Int.add_assoc];done)|(simp [hk1,hq,Int.add_assoc];done))
   ·(simp only [go_sem];(repeat' (refine And.intro ?_ ?_))<;>first|exact trivial|with_reducible rfl|(simp only [hk1,hq,Int.add_assoc];done)|(simp only [hk1,hq,Int.add_assoc];with_reducible rfl)|(simp [hk1,hq,Int.add_assoc];done)|(simp [hk1,hq,Int.add_assoc];omega)|(simp only [hk1,hq,Int.add_assoc];rfl)|skip)
  obtain rfl:k=x.data.length:=ω;obtain rfl:R=(g,true):=hRk.trans (yrs (Nat.le_refl _));simp only [yrr];simp only [eP,eX,hq,PMach.setT,kN,kT,iQ,lV,iJ,dN,bP,eQ,List.getElem!_cons_zero,List.getElem!_cons_succ,List.set_cons_zero,List.set_cons_succ];refine aA ?_;exact vX iP
theorem ys4 (p:PProg) (m:PMach) (C:Int) (h:okMach p C m) (t:Nat) (ht:t<4) (q:Request) (hq:q.thread=t) (x:Rdn.Result) (k:PutOk p m t q x):FncI Tryz.prog 206 (iJ m) [dM false p,.ptr 0 0 [] 0,eP q,eX x] (fun y ob=>y=.bool (sG p m t q x).2∧ob=iJ (sG p m t q x).1):=by
 by_cases hb:iO q.call=2∧x.data≠[]
 ·exact ys5 p m C h t ht q hq x k hb
 ·exact ys6 p m C h t ht q hq x k hb
end Go.Proofs.YthmjocibdepahaaGreat
