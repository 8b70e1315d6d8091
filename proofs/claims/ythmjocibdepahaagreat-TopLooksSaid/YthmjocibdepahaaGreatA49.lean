import Derived.Test.YthmjocibdepahaaGreatA42
import Derived.Test.YthmjocibdepahaaGreatA48
set_option linter.defProp false
set_option linter.unusedSimpArgs false
set_option linter.unusedVariables false
set_option maxHeartbeats 64000000
set_option maxRecDepth 100000
namespace Go.Proofs.YthmjocibdepahaaGreat
open Go Go.RowKit Rdn Rdn.Dp
def xls:=aC 7
abbrev zI (v:View) (r:Nat):V:=.agg [.int .i64 v.state,.int .i64 v.pc,.int .i64 v.count,.int .i64 v.handler,.int .i64 v.saved,.int .i64 v.trap,.int .u16 v.code,.own r 0]
structure VwOk (v:View):Prop where
 ok:okView v
 cs:∀c∈v.regs,qR c
 code:0≤v.code∧v.code≤65535
theorem VwOk.regs {v:View} (h:VwOk v) {D:List Canon} (hl:D.length=8) (hd:∀c∈D,qR c):VwOk {v with regs:=D}:=
 ⟨⟨h.ok.state,h.ok.pc,h.ok.count,h.ok.handler,h.ok.saved,h.ok.trap,hl,xk1 hd (by show(D.length:Int)≤8;omega)⟩,hd,h.code⟩
theorem VwOk.st {v:View} (h:VwOk v) {s:Int} (hs:0≤s∧s≤4):VwOk {v with state:=s}:=
 ⟨⟨hs,h.ok.pc,h.ok.count,h.ok.handler,h.ok.saved,h.ok.trap,h.ok.len,h.ok.regs⟩,h.cs,h.code⟩
theorem ybb {s:List Int} (h:oO s) {c:Canon} (hc:yba s c):qR c:=by
 obtain⟨h1,h2⟩:=hc;refine⟨?_,h2⟩;unfold iH;refine decide_eq_true ?_;unfold mJ at h1;unfold okC;split at h1
 ·rename_i e;exact .inl ⟨e,h1⟩
 ·obtain⟨h3,h4,h5,h6,h7,h8⟩:=h1
  have h9:=xU h (k:=c.region.toNat) ω;have h10:=h.2.2;exact .inr ⟨h3,h4,.inr ⟨h5,ω,h7,ω⟩⟩
def upd (w:Nat→View) (t:Nat) (v:View) (j:Nat):View:=if j=t then v else w j
theorem yeu {w:Nat→View} {t:Nat} {v:View} (hw:∀j,j<4→VwOk (w j)) (hv:VwOk v) (j:Nat) (hj:j<4):VwOk (upd w t v j):=by
 unfold upd;split
 ·exact hv
 ·exact hw j hj
theorem ydq {l:List Canon} (h:∀c∈l,qR c) (k:Nat) {c:Canon} (hc:qR c):∀x∈l.set k c,qR x:=fun x hx=>(List.mem_or_eq_of_mem_set hx).elim (h x) fun e=>e▸hc
theorem yok (m:PMach):V.fresh (.tup [eG true m,.bool true])=true:=by
 have q1:∀l:List Cell,V.freshs (l.map bC)=true:=fun l=>xcq _ _ fun _=>rfl;have q2:∀l:List PLine,V.freshs (l.map (iM true))=true:=fun l=>xcq _ _ fun x=>by simp [iM,V.fresh,V.freshs,q1]
 have q3:∀l:List PThr,V.freshs (l.map (dW true))=true:=fun l=>xcq _ _ fun x=>by simp [dW,V.fresh,V.freshs,q1]
 have q4:∀l:List Int,V.freshs (l.map (V.int .i64))=true:=fun l=>xcq _ _ fun _=>rfl;simp [V.fresh,V.freshs,q1,q2,q3,q4]
theorem yss {p:PProg} {m:PMach} (h:oO p.sizes):lH p m 0::(jX p m p.sizes.length).drop 1=(uZ p m).regions:=by
 obtain⟨n,hn⟩:∃n,p.sizes.length=n+1:=⟨p.sizes.length-1,by have:=h.2.1;omega⟩;show _=jX p m p.sizes.length;unfold jX;rw [hn,List.range_succ_eq_map];rfl
theorem yoq (l:List Int) (k:Nat) (hk:k≤l.length):FncM Tryz.prog 7 87 (gV l k) [] (fun x obs c=>∃(p:PProg) (m:PMach) (k':Nat),(okMach p 1099511627776 m∧∀y∈m.thr,0≤y.code∧y.code≤65535)∧k'≤l.length∧x=.tup [dM false p,eG false m]∧obs=[]∧c=gV l k'):=by
 refine FncM.low ?_;refine qX xls fun W S b0 hb0=>?_;refine xfr (yjn l k hk) rfl τ rfl φ φ φ (by first|rfl|(simp only [go_sem];done)|(simp only [go_sem];rfl)) fun x obs d hR=>?_;obtain⟨p,y,o,n,r,q,hst,hR,hn,hq,rfl,rfl,rfl⟩:=hR;simp only [V.shift,V.shifts,xfp,List.map_nil,List.append_nil,List.set_cons_zero];have hok:=hR.ok hst ω;have hM:okMach r.prog 1099511627776 r.mach:=hok.mach.le ω;have z0:=iT (l:=l) (k:=q) (n:=3) δ;have f0:=fB l q 3 hq δ;have q1:=aH hq;have fr:=yte r.prog r.mach _ hM;have hsz:=hM.prog.sz;refine aA ?_;refine aO (f0) ?_;refine xi8 15 fun hw=>?_;have hc:∀y∈r.mach.thr,0≤y.code∧y.code≤65535:=by
  simp only [aV,Nat.reduceEqDiff,if_false,if_true,V.wf,V.wfs,lW] at hw;exact fun y hy=>xbu (hw.2.2.1.1 y hy).2.2.2.2.2.2.2.1
 clear hw;by_cases c0:aG l q 3=0;rotate_left
 ·refine aA ?_
  refine dE hb0 xls ?_
  (exact⟨r.prog,r.mach,aB l q,⟨hM,hc⟩,q1,by(first|rfl|simp only [go_sem]|(simp only [go_sem];rfl)),rfl,by simp only [go_sem]⟩)
 have hF:=xsy hM hc;have hv:∀x∈r.mach.thr,VwOk (qI r.mach.lay r.prog.sizes x):=fun x hx=>
  have hm:qI r.mach.lay r.prog.sizes x∈(uZ r.prog r.mach).threads:=List.mem_map_of_mem hx
  ⟨hF.ok.thr _ hm,(hF.thr _ hm).1,(hF.thr _ hm).2⟩
 have h4:=hM.n;have hv0:=hv _ (dJ (l:=r.mach.thr) (k:=0) ω);have hv1:=hv _ (dJ (l:=r.mach.thr) (k:=1) ω);have hv2:=hv _ (dJ (l:=r.mach.thr) (k:=2) ω);have hv3:=hv _ (dJ (l:=r.mach.thr) (k:=3) ω);have e:∀j k:Nat,xY r.mach.thr[j]! k 0=zI (qI r.mach.lay r.prog.sizes r.mach.thr[j]!) k:=fun _ _=>rfl;have hrg:∀x∈(uZ r.prog r.mach).regions,∀c∈x,qR c:=hF.reg;have hrl:=hF.len;have hrn:=hF.rl;have hr0:lH r.prog r.mach 0::(jX r.prog r.mach r.prog.sizes.length).drop 1=(uZ r.prog r.mach).regions:=yss hsz;have h32:=(xU hsz (k:=0) (by have:=hsz.2.1;omega)).2;have hl0:((lH r.prog r.mach 0).length:Int)=r.prog.sizes[0]!:=by rw [xjo];have:=(xU hsz (k:=0) (by have:=hsz.2.1;omega)).1;omega
 simp only [yfa,zA,e,Nat.reduceLT,if_true] at fr;generalize qI r.mach.lay r.prog.sizes r.mach.thr[0]! =v0 at fr hv0;generalize qI r.mach.lay r.prog.sizes r.mach.thr[1]! =v1 at fr hv1;generalize qI r.mach.lay r.prog.sizes r.mach.thr[2]! =v2 at fr hv2;generalize qI r.mach.lay r.prog.sizes r.mach.thr[3]! =v3 at fr hv3;rw [←hr0] at hrg hrl hrn;generalize (jX r.prog r.mach r.prog.sizes.length).drop 1=G at fr hrg hrl hrn;generalize lH r.prog r.mach 0=R at fr hrg hrl hrn hl0;clear hr0 hv e hF;generalize aB l q=q0 at q1;clear z0 f0;refine aA ?_;refine dD (fr) ?_;have hR:∀c∈R,qR c:=hrg R ξ;refine bI [0,2,3,4,5,6,27] (fun z:{z:Nat×Nat×List Canon // z.1≤R.length∧z.2.1≤l.length∧z.2.2.length=R.length∧∀c∈z.2.2,qR c}=>[(28,.int .i64 z.1.1)]) (fun z=>[⟨.box true 87,true,0,gV l z.1.2.1⟩,⟨.box false 30,true,0,.agg [.nilS,.nilS,.nilS]⟩,⟨.box false 40,true,0,xc3⟩,⟨.box false 100,true,0,xce r⟩,⟨.box false 40,true,0,eG false r.mach⟩,⟨.rows false 66,true,0,.arr 1 (.own 6 0::G.map (bD false 4 aS))⟩,qU z.1.2.2,⟨.rows false 68,true,0,.arr 8 [zI (v0) 8,zI (v1) 9,zI (v2) 10,zI (v3) 11]⟩,qU (v0).regs,qU (v1).regs,qU (v2).regs,qU (v3).regs,⟨.box false 50,true,0,.agg [.own 5 0,.own 7 0]⟩]) (fun z=>R.length-z.1.1) (⟨(0,q0,R),by simp,q1,rfl,hR⟩) 13 ?_;intro J hJ
 rintro⟨⟨i,q,D0⟩,hi,hq,hE,hEo⟩
 dsimp only at hi hq hE hEo;by_cases hlt:i<R.length
 ·have f1:=fB l q 3 hq δ
  have q2:=aH hq;by_cases c1:aG l q 3=0
  ·have fc:=xv6 l (aB l q) q2 r.prog.sizes hsz
   obtain⟨k1,k2⟩:=xv5 (l:=l) hsz q2;have k3:=ybb hsz k1;generalize yE r.prog.sizes l (aB l q)=z at fc k2 k3;obtain⟨c,q3⟩:=z;dsimp only at fc k2 k3;have hsn:(D0.set i c).map aS=(D0.map aS).set i (aS c):=List.map_set ..;refine aA ?_;refine aO (f1) ?_;refine aO (fc) ?_;refine lI 13 (hJ _ (⟨(i+1,q3,D0.set i c),hlt,k2,by rw [List.length_set];exact hE,ydq hEo i k3⟩) ψ) rfl ξ ?_ φ (by first|rfl|(simp only [go_sem];done)|(simp only [hsn];(try simp only [go_sem]);first|done|rfl)) ?_
   ·exact zna hsn
   ·exact znb hsn
  ·refine aA ?_
   refine aO (f1) ?_;refine lI 13 (hJ _ (⟨(i+1,aB l q,D0),hlt,q2,hE,hEo⟩) ψ) rfl ξ ?_ φ (by first|rfl|(simp only [go_sem];done)|(simp only [hlt];(try simp only [go_sem]);first|done|rfl)) ?_
   ·exact zna hlt
   ·exact znb hlt
 obtain rfl:i=R.length:=ω;dsimp only;obtain⟨w,hw0,hw1,hw2,hw3,hw⟩:∃w:Nat→View,w 0=v0∧w 1=v1∧w 2=v2∧w 3=v3∧∀j,j<4→VwOk (w j):=by
  refine⟨fun j=>if j=0 then v0 else if j=1 then v1 else if j=2 then v2 else v3,rfl,rfl,rfl,rfl,fun j hj=>?_⟩;rcases(show j=0∨j=1∨j=2∨j=3 by omega) with rfl|rfl|rfl|rfl
  ·exact hv0
  ·exact hv1
  ·exact hv2
  ·exact hv3
 rw [←hw0,←hw1,←hw2,←hw3];refine aA ?_;refine bI [0,2,3,4,5,6,48] (fun z:{z:Nat×Nat×(Nat→View) // z.1≤4∧z.2.1≤l.length∧∀j,j<4→VwOk (z.2.2 j)}=>[(49,.int .i64 z.1.1)]) (fun z=>[⟨.box true 87,true,0,gV l z.1.2.1⟩,⟨.box false 30,true,0,.agg [.nilS,.nilS,.nilS]⟩,⟨.box false 40,true,0,xc3⟩,⟨.box false 100,true,0,xce r⟩,⟨.box false 40,true,0,eG false r.mach⟩,⟨.rows false 66,true,0,.arr 1 (.own 6 0::G.map (bD false 4 aS))⟩,qU D0,⟨.rows false 68,true,0,.arr 8 [zI (z.1.2.2 0) 8,zI (z.1.2.2 1) 9,zI (z.1.2.2 2) 10,zI (z.1.2.2 3) 11]⟩,qU ((z.1.2.2 0).regs),qU ((z.1.2.2 1).regs),qU ((z.1.2.2 2).regs),qU ((z.1.2.2 3).regs),⟨.box false 50,true,0,.agg [.own 5 0,.own 7 0]⟩]) (fun z=>4-z.1.1) (⟨(0,q,w),by simp,hq,hw⟩) 13 ?_;intro J hJ;clear hw hw0 hw1 hw2 hw3
 rintro⟨⟨t,q,w⟩,ht,hq,hw⟩
 dsimp only at ht hq hw;by_cases hlt:t<4
 ·have hJ0:=hJ
  obtain⟨T,hT⟩:∃T,T=t:=⟨t,rfl⟩;have ho:=hw t hlt;have hJ1:=fun z q v h1 h2=>hJ0 z ⟨(T+1,q,v),h1,h2⟩;rcases(show t=0∨t=1∨t=2∨t=3 by omega) with rfl|rfl|rfl|rfl
  all_goals
   have h8:=ho.ok.len;refine aA ?_;refine gY [0,2,3,4,5,6,8,48,49,58] (fun z:{z:Nat×Nat×List Canon // z.1≤8∧z.2.1≤l.length∧z.2.2.length=8∧∀c∈z.2.2,qR c}=>[(59,.int .i64 z.1.1)]) (fun z=>[⟨.box true 87,true,0,gV l z.1.2.1⟩,⟨.box false 30,true,0,.agg [.nilS,.nilS,.nilS]⟩,⟨.box false 40,true,0,xc3⟩,⟨.box false 100,true,0,xce r⟩,⟨.box false 40,true,0,eG false r.mach⟩,⟨.rows false 66,true,0,.arr 1 (.own 6 0::G.map (bD false 4 aS))⟩,qU D0,⟨.rows false 68,true,0,.arr 8 [zI (w 0) 8,zI (w 1) 9,zI (w 2) 10,zI (w 3) 11]⟩,qU (if T=0 then z.1.2.2 else(w 0).regs),qU (if T=1 then z.1.2.2 else(w 1).regs),qU (if T=2 then z.1.2.2 else(w 2).regs),qU (if T=3 then z.1.2.2 else(w 3).regs),⟨.box false 50,true,0,.agg [.own 5 0,.own 7 0]⟩]) (fun z=>8-z.1.1) (⟨(0,q,_),by simp,hq,h8,ho.cs⟩) 13 τ ?_ (by first|rfl|(simp only [go_sem];done)|(simp only [go_sem];simp [hT];done)) ξ φ φ (by first|rfl|(simp only [go_sem];done)|(simp only [hT];(try simp only [go_sem]);first|done|rfl)) ?_
   ·(simp only [go_sem];(try simp [hT]);done)
   intro J hJ
   rintro⟨⟨i,q,D⟩,hi,hq,hD,hDo⟩
   dsimp only at hi hq hD hDo⊢;simp only [hT,Nat.reduceEqDiff,if_true,if_false];by_cases hli:i<8
   ·have f1:=fB l q 3 hq δ
    have q2:=aH hq;by_cases c1:aG l q 3=0
    ·have fc:=xv6 l (aB l q) q2 r.prog.sizes hsz
     obtain⟨k1,k2⟩:=xv5 (l:=l) hsz q2;have k3:=ybb hsz k1;generalize yE r.prog.sizes l (aB l q)=z at fc k2 k3;obtain⟨c,q3⟩:=z;dsimp only at fc k2 k3;have hsn:(D.set i c).map aS=(D.map aS).set i (aS c):=List.map_set ..;refine aA ?_;refine aO (f1) ?_;refine aO (fc) ?_;refine lI 13 (hJ _ (⟨(i+1,q3,D.set i c),hli,k2,by rw [List.length_set];exact hD,ydq hDo i k3⟩) ψ) rfl ξ ?_ φ (by first|rfl|(simp only [go_sem];done)|(simp only [hsn,hT];(try simp only [go_sem]);first|done|rfl)) ?_
     ·(first|rfl|(simp only [go_sem];done)|(simp only [go_sem];simp only [hsn,hT];done)|(simp only [hsn,hT];done)|(simp only [go_sem];simp [hsn,hT];done)|(simp [hsn,hT];done))
     ·(simp only [go_sem];(repeat' (refine And.intro ?_ ?_))<;>first|exact trivial|with_reducible rfl|(simp only [hsn,hT];done)|(simp only [hsn,hT];with_reducible rfl)|(simp [hsn,hT];done)|(simp [hsn,hT];omega)|(simp only [hsn,hT];rfl)|skip)
    ·refine aA ?_
     refine aO (f1) ?_;refine lI 13 (hJ _ (⟨(i+1,aB l q,D),hli,q2,hD,hDo⟩) ψ) rfl ξ ?_ φ (by first|rfl|(simp only [go_sem];done)|(simp only [hli,hT];(try simp only [go_sem]);first|done|rfl)) ?_
     ·(first|rfl|(simp only [go_sem];done)|(simp only [go_sem];simp only [hli,hT];done)|(simp only [hli,hT];done)|(simp only [go_sem];simp [hli,hT];done)|(simp [hli,hT];done))
     ·(simp only [go_sem];(repeat' (refine And.intro ?_ ?_))<;>first|exact trivial|with_reducible rfl|(simp only [hli,hT];done)|(simp only [hli,hT];with_reducible rfl)|(simp [hli,hT];done)|(simp [hli,hT];omega)|(simp only [hli,hT];rfl)|skip)
   obtain rfl:i=8:=ω;have f1:=fB l q 4 hq δ;have q2:=aH hq;have hV:=ho.regs hD hDo;by_cases c1:aG l q 4=0
   ·have f2:=fB l (aB l q) 5 q2 δ
    have s0:=iT (l:=l) (k:=aB l q) (n:=5) δ;have s1:=iZ (l:=l) (k:=aB l q) (n:=5) δ;have hJ2:=fun z=>hJ1 z (aB l (aB l q)) _ ω ⟨aH q2,yeu (t:=T) hw (hV.st ⟨s0,ω⟩)⟩;subst hT;refine aA ?_;refine aO (f1) ?_;refine aO (f2) ?_;exact lX 13 (hJ2 _ (by dsimp only;omega)) (by refine⟨rfl,by simp,?_,?_,?_,?_⟩<;>first|rfl|exact trivial|(simp only [go_sem];done)|(simp only [go_sem];rfl)|(simp only [upd,Nat.reduceEqDiff,if_true,if_false];rfl))
   ·have hJ2:=fun z=>hJ1 z (aB l q) _ ω ⟨q2,yeu (t:=T) hw hV⟩
    subst hT;refine aA ?_;refine aO (f1) ?_;exact lX 13 (hJ2 _ (by dsimp only;omega)) (by refine⟨rfl,by simp,?_,?_,?_,?_⟩<;>first|rfl|exact trivial|(simp only [go_sem];done)|(simp only [go_sem];rfl)|(simp only [upd,Nat.reduceEqDiff,if_true,if_false];rfl))
 obtain rfl:t=4:=ω;dsimp only;have hS:Fm r.prog.sizes ⟨D0::G,[w 0,w 1,w 2,w 3]⟩:=by
  have hln:(D0::G).length=r.prog.sizes.length:=by simpa using hrn
  have hlen:∀i,i<r.prog.sizes.length→((D0::G)[i]!.length:Int)=r.prog.sizes[i]!:=fun i hi=>by
   cases i with
   |zero=>show(D0.length:Int)=_;rw [hE];exact hl0
   |succ i=>simpa using hrl (i+1) hi
  have hcs:∀x∈D0::G,∀c∈x,qR c:=fun x hx=>(List.mem_cons.1 hx).elim (fun e=>e▸hEo) fun hx=>hrg x (by simp [hx]);have hvs:∀v∈[w 0,w 1,w 2,w 3],VwOk v:=fun v hv=>by
   simp only [List.mem_cons,List.not_mem_nil,or_false] at hv;rcases hv with rfl|rfl|rfl|rfl
   all_goals exact hw _ ω
  refine⟨⟨by rw [hln];exact hsz.2.1,by rw [hln];exact hsz.2.2,fun x hx=>?_,rfl,fun v hv=>(hvs v hv).ok⟩,hln,hlen,hcs,fun v hv=>⟨(hvs v hv).cs,(hvs v hv).code⟩⟩;have hx2:=hcs x hx;obtain⟨i,hi,rfl⟩:=List.getElem_of_mem hx;have hi2:i<r.prog.sizes.length:=by rw [←hln];exact hi
  have h1:=hlen i hi2;have h2:=xU hsz hi2;rw [getElem!_pos (D0::G) i hi] at h1;exact⟨by show 1≤(D0::G)[i].length;omega,by show(D0::G)[i].length≤32;omega,xk1 hx2 (by show((D0::G)[i].length:Int)≤32;omega)⟩
 have fI:=ymd r.prog r.mach.lay _ hM.prog hM.lay hS;refine aA ?_;refine ygv 5 fI ⟨rfl,?_,?_,?_⟩
 ·intro y hy
  simp only [go_sem,List.mem_cons,List.not_mem_nil,or_false] at hy;rcases hy with rfl|rfl|rfl
  ·simp [xcm,xB,gG,bT,xas,V.pure,V.pures,bV]
  ·simp [xcm,xB,gG,bT,xas,V.pure,V.pures,bV]
  ·simp [xcm,xB,gG,bT,xas,V.pure,V.pures,bV]
 ·simp only [go_sem]
  simp [dpA,pV,gG,bT,yH,V.low,V.lows,uC]
 ·rintro x os (⟨rfl,rfl⟩|⟨m,hm,rfl,rfl⟩)
  ·refine⟨rfl,by simp,?_⟩
   simp only [V.shift,V.shifts,List.map_nil,List.append_nil];refine dH (fu:=[(),(),(),(),(),(),(),()]) ?_;refine bK ?_;refine aA ?_;refine dE hb0 xls ?_
   (exact⟨r.prog,r.mach,q,⟨hM,hc⟩,hq,by(first|rfl|simp only [go_sem]|(simp only [go_sem];rfl)),rfl,by simp only [go_sem]⟩)
  ·refine⟨yok m,by simp,?_⟩
   simp only [V.shift,V.shifts,xfp,List.map_nil,List.append_nil];refine dH (fu:=[(),(),(),(),(),(),(),()]) ?_;refine bK ?_;refine bF ?_;refine xi8 97 fun hw=>?_;have hc2:∀y∈m.thr,0≤y.code∧y.code≤65535:=by
    simp only [aV,Nat.reduceEqDiff,if_false,if_true,V.wf,V.wfs,lW] at hw;exact fun y hy=>xbu (hw.2.2.1.1 y hy).2.2.2.2.2.2.2.1
   clear hw;refine aA ?_;refine dE hb0 xls ?_
   (exact⟨r.prog,m,q,⟨hm,hc2⟩,hq,by(first|rfl|simp only [go_sem]|(simp only [go_sem];rfl)),rfl,by simp only [go_sem]⟩)
end Go.Proofs.YthmjocibdepahaaGreat
