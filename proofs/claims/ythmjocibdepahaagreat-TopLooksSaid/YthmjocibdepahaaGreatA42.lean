import Derived.Test.YthmjocibdepahaaGreatA40
import Derived.Test.YthmjocibdepahaaGreatA36
import Derived.Test.YthmjocibdepahaaGreatA41
set_option linter.defProp false
set_option linter.unusedSimpArgs false
set_option linter.unusedVariables false
set_option maxHeartbeats 64000000
set_option maxRecDepth 100000
namespace Go.Proofs.YthmjocibdepahaaGreat
open Go Go.RowKit Rdn Rdn.Dp
def xqf:=aC 20
def xN (l:List Int) (k:Nat):Rdn.Outside:=⟨(bJ l (bJ l (bJ l (bJ l (bJ l k 5).2 3).2 8).2 4).2 5).1,(bJ l (bJ l (bJ l (bJ l (bJ l (bJ l k 5).2 3).2 8).2 4).2 5).2 5).1,[(bJ l (bJ l (bJ l k 5).2 3).2 8).1,(bJ l (bJ l (bJ l (bJ l k 5).2 3).2 8).2 4).1],fl0 l k,[]⟩
theorem yql (l:List Int) (k:Nat):FitO (xN l k):=by
 refine⟨?_,?_,by show(2:Nat)≤2;decide,fun x hx=>?_,yli l k,Nat.zero_le _,fun j hj=>absurd hj (Nat.not_lt_zero _),fun x hx=>by cases hx⟩
 ·have:=yI (l:=l) (k:=(bJ l (bJ l (bJ l (bJ l k 5).2 3).2 8).2 4).2) (n:=5) δ
  show(bJ l _ 5).1.length≤64;omega
 ·have:=yI (l:=l) (k:=(bJ l (bJ l (bJ l (bJ l (bJ l k 5).2 3).2 8).2 4).2 5).2) (n:=5) δ
  show(bJ l _ 5).1.length≤64;omega
 ·have h1:=yI (l:=l) (k:=(bJ l (bJ l k 5).2 3).2) (n:=8) δ
  have h2:=yI (l:=l) (k:=(bJ l (bJ l (bJ l k 5).2 3).2 8).2) (n:=4) δ;simp only [xN,List.mem_cons,List.not_mem_nil,or_false] at hx;rcases hx with rfl|rfl
  ·omega
  ·omega
theorem yqn (l:List Int) (k:Nat):rngO (xN l k):=by
 have h:=xvz l;refine⟨h _ _,h _ _,fun w hw=>?_,fun w hw c hc=>?_⟩
 ·simp only [xN,List.mem_cons,List.not_mem_nil,or_false] at hw
  rcases hw with rfl|rfl
  ·exact h _ _
  ·exact h _ _
 ·simp only [xN,fl0,List.mem_cons,List.not_mem_nil,or_false] at hw
  rcases hw with rfl|rfl
  ·obtain⟨v,hv,rfl⟩:=List.mem_map.1 hc
   exact h _ _ v hv
  ·obtain⟨v,hv,rfl⟩:=List.mem_map.1 hc
   exact h _ _ v hv
structure okStart (p:PProg) (y:PLay) (o:Rdn.Outside):Prop where
 prog:okProg p
 dat:∀d∈p.data,∀v∈d,0≤v∧v≤65535
 lay:jW y p.sizes
 out:FitO o
 rng:rngO o
 pro:xfd p.sizes o.files.data=true
def xjq (p:PProg) (y:PLay) (o:Rdn.Outside):PRn:=⟨p,xhh p y,o,lk0,[],[-1,-1,-1,-1]⟩
inductive RunOf (p:PProg) (y:PLay) (o:Rdn.Outside):Nat→PRn→Prop
 |start:RunOf p y o 0 (xjq p y o)
 |step {n:Nat} {r:PRn} (c:PChoice):RunOf p y o n r→rngO r.out→xc4 r=0→RunOf p y o (n+1) (xfs r c)
theorem ytg {p:PProg} {y:PLay} {o:Rdn.Outside} (h:okStart p y o):okRun 0 (xjq p y o):=
 ⟨yvm h.prog h.lay h.dat,h.out,yna,rfl,fun j hj=>by simp [xjq] at hj;omega,fun e he=>by cases he⟩
theorem RunOf.ok {p:PProg} {y:PLay} {o:Rdn.Outside} (h:okStart p y o) {n:Nat} {r:PRn} (k:RunOf p y o n r) (hn:n≤1000000):okRun (64*n) r:=by
 induction k with
 |start=>exact ytg h
 |@step n r c _ ho he ih=>
  have:=yvp ω (ih ω) ho c he ω;have e:(64:Int)*((n+1:Nat):Int)=64*n+64:=ω;rw [e];exact this
theorem ypr {r:PRn} {C:Int} (h:okRun C r) (t:Int):(nx4 r t).record.length≤r.record.length+8:=by
 unfold nx4;refine aQ (P:=fun z:PRn=>z.record.length≤r.record.length+8) (fun _=>?_) fun _=>by omega
 have h1:=xp4 t (zV {r with locks:=(xI r.locks t).1} (xI r.locks t).2) 4;have h2:=xp2 (r:={r with locks:=(xI r.locks t).1}) (l:=(xI r.locks t).2);have h3:(xI r.locks t).2.length≤4:=(xip h.lk t 4).2.1;dsimp only at h2;unfold xau;omega
theorem ypq (r:PRn) (q:Request):(nx3 r q).record.length≤r.record.length+2:=by
 unfold nx3;exact aQ (P:=fun z:PRn=>z.record.length≤r.record.length+2) (fun _=>xk7 r q) fun _=>by omega
theorem yvo {r:PRn} {C:Int} (hC:0≤C) (h:okRun C r) (ho:rngO r.out) (c:PChoice) (he:xc4 r=0) (hC2:C+64≤1099511627776):(xfs r c).record.length≤204:=by
 have hl:¬(xbc r).length=0:=fun e=>by unfold xc4 at he;rw [if_pos e] at he;cases he
 have hr:r.record.length≤192:=by
  unfold xc4 at he;rw [if_neg hl] at he;by_cases e:r.record.length>192
  ·rw [if_pos e] at he;cases he
  ·omega
 obtain⟨t0,t1,ts⟩:=xrc hl c;obtain⟨k1,k2,k3⟩:=yb2 h c t0 t1 ts;have hn:=xrb c;have ho2:rngO (uQ r c (rM r c)).out:=by
  unfold uQ;exact aQ (P:=fun z:PRn=>rngO z.out) (fun _=>ho) fun _=>ho
 have k:=xjw k1.mach (t:=(rM r c).toNat) ω hn.1 ω;have k4:=yb3 (q:=(uV (uQ r c (rM r c)).prog (uQ r c (rM r c)).mach (rM r c).toNat (rJ c)).2) ω ((xnh k1 t0 t1 hn.1 ω).le (show C+rJ c≤C+64 by omega)) ho2 fun e=>(k.2.2.2 e).1;have l1:=ypr k4 (rM r c);have l2:=ypq (xcg (uQ r c (rM r c)) (rM r c) (rJ c)) (uV (uQ r c (rM r c)).prog (uQ r c (rM r c)).mach (rM r c).toNat (rJ c)).2;have l3:(xcg (uQ r c (rM r c)) (rM r c) (rJ c)).record.length=(uQ r c (rM r c)).record.length+1:=by show(_++[_]).length=_;rw [List.length_append,List.length_singleton]
 unfold xfs xjb;omega
theorem RunOf.len {p:PProg} {y:PLay} {o:Rdn.Outside} (h:okStart p y o) {n:Nat} {r:PRn} (k:RunOf p y o n r) (hn:n≤1000000):r.record.length≤204:=by
 cases k with
 |start=>exact Nat.zero_le _
 |@step n r c k ho he=>exact yvo ω (k.ok h ω) ho c he ω
theorem yqm (s:List Int) (l:List Int) (k:Nat):xfd s (xN l k).files.data=true:=by
 have key:∀w:List Int,xh8 s (mF w)=true:=fun w=>by
  unfold xh8;rw [List.all_eq_true];intro x hx;obtain⟨v,-,rfl⟩:=List.mem_map.1 hx;exact aN (by unfold mJ;rw [if_pos (.inl rfl)];exact⟨rfl,rfl⟩)
 unfold xfd;simp only [xN,fl0,List.all_cons,key,List.all_nil,Bool.and_self,Bool.and_true]
theorem yth {r:PRn} (h:(xce r).wf):rngO r.out:=by
 simp only [xce,V.wf,V.wfs] at h;exact yqs (by simpa only [jO,V.wf,V.wfs] using h.2.2.1)
theorem yjn (l:List Int) (k:Nat) (hk:k≤l.length):FncM Tryz.prog 20 87 (gV l k) [] (fun x obs c=>∃(p:PProg) (y:PLay) (o:Rdn.Outside) (n:Nat) (r:PRn) (k':Nat),okStart p y o∧RunOf p y o n r∧n≤18∧k'≤l.length∧x=xce r∧obs=[]∧c=gV l k'):=by
 refine FncM.low ?_;refine FncM.intro xqf ξ fun W S b0 hb0=>?_;simp only [ents,Nat.zero_add,Nat.reduceAdd,Qm,Qc,Ql,QL,Qf,Qs,Qb,Qk,QB,Qn,Qe,Qx,Qt,Qu,Q0,Q1,Qp,Qw,Qq,Qr,Qi];refine qL ?_;refine xfr (yji l k hk) rfl τ rfl φ φ φ (by first|rfl|(simp only [go_sem];done)|(simp only [go_sem];rfl)) fun x obs d hR=>?_;obtain⟨p,q,⟨hp,hdat⟩,hq,rfl,rfl,rfl⟩:=hR;simp only [V.shift,V.shifts,xfp,List.map_nil,List.append_nil,List.set_cons_zero];have q1:=aH hq;have m0:=iT (l:=l) (k:=q) (n:=1048576) δ;have hl:jW (xj6 p.sizes (aG l q 1048576)) p.sizes:=yom hp.sz m0 _;have fl:=yj0 l q hq p.sizes hp.sz;have fo:FncM Tryz.prog 62 87 (gV l (aB l q)) [] (fun x obs d=>x=.agg [owV (xN l (aB l q)).clock,owV (xN l (aB l q)).random,.sl false 1 ((xN l (aB l q)).inputs.map (bD false 1 (V.int .u16))),lC (xN l (aB l q)).files,.nilS]∧obs=[]∧d=gV l (kl0 l (aB l q))):=yqr l (aB l q) q1;have q2:=ymx q1;have hno:(xN l (aB l q)).outputs=[]:=rfl;have hst:okStart p (xj6 p.sizes (aG l q 1048576)) (xN l (aB l q)):=⟨hp,hdat,hl,yql _ _,yqn _ _,yqm _ _ _⟩;generalize xj6 p.sizes (aG l q 1048576)=y at hl fl hst;generalize xN l (aB l q)=o at fo hst hno;obtain⟨oc,orr,oi,of,oo⟩:=o;dsimp only at hno;subst hno;obtain⟨o,hoo⟩:∃o:Rdn.Outside,o=⟨oc,orr,oi,of,[]⟩:=⟨_,rfl⟩;generalize kl0 l (aB l q)=q3 at fo q2;have fb:=ys9 p y _ hp hst.lay hst.out hst.pro;have hR0:RunOf p y ⟨oc,orr,oi,of,[]⟩ 0 (xjq p y ⟨oc,orr,oi,of,[]⟩):=.start;have z0:=iT (l:=l) (k:=q3) (n:=16) δ;have z1:=iZ (l:=l) (k:=q3) (n:=16) δ;have q4:=aH q2;obtain⟨K,hK⟩:∃K:Nat,3+aG l q3 16=K:=⟨(3+aG l q3 16).toNat,ω⟩;have hK18:K≤18:=ω;have fk:=fB l q3 16 q2 δ;refine aA ?_;refine aO (fl) ?_;refine aO (fo) ?_;refine aF (fb) ?_;refine aO (fk) ?_;rw [hK];refine dS false [0,1,2,3] [0,2,4,6] χ χ ?_;simp only [go_sem];generalize aB l q3=q5 at q4;clear hK z0 z1;refine bI [0,2,4] (fun z:{z:Nat×PRn×Nat // z.1≤K∧RunOf p y ⟨oc,orr,oi,of,[]⟩ z.1 z.2.1∧rngO z.2.1.out∧z.2.2≤l.length}=>[(6,.int .i64 (K-z.1.1))]) (fun z=>[⟨.box true 87,true,0,gV l z.1.2.2⟩,⟨.box false 100,true,0,yd3⟩,⟨.box false 30,true,0,dM false p⟩,⟨.box false 100,true,0,xce z.1.2.1⟩]) (fun z=>K-z.1.1) (⟨(0,xjq p y ⟨oc,orr,oi,of,[]⟩,q5),Nat.zero_le _,hR0,hst.rng,q4⟩) 4 ?_;intro J hJ
 rintro⟨⟨n,r,q⟩,hn,hR,hro,hq⟩
 dsimp only at hn hR hro hq;by_cases hlt:n<K
 ·have hok:=hR.ok hst ω
  have hln:=hR.len hst ω;have fch:=yip l q hq;have hcq:chK l q≤l.length:=aH (aH (aH hq));have fn:=ypt (64*n) ω ω r hok hro ω (chS l q);have hkj:(K:Int)-((n+1:Nat):Int)=K-n-1:=ω;generalize chS l q=ch at fch fn;generalize chK l q=q6 at fch hcq;by_cases he:xc4 r=0
  ·have hR2:=RunOf.step ch hR hro he
   rw [if_pos he,he] at fn;generalize xfs r ch=r2 at fn hR2;simp only [];refine aA ?_;refine aO (fch) ?_;refine aF (fn) ?_;refine xi8 38 fun hw=>?_;have hr2:=yth (by simpa only [aV,if_true,if_false,Nat.reduceEqDiff] using hw);refine dS false [0,1,2,3] [0,2,4,6] χ χ ?_;simp only [go_sem];exact zn4 (hJ _ (⟨(n+1,r2,q6),hlt,hR2,hr2,hcq⟩) ψ) hkj
  ·rw [if_neg he] at fn
   refine aA ?_;refine aO (fch) ?_;refine aF (fn) ?_;refine dE hb0 xqf ?_
   (exact⟨p,y,⟨oc,orr,oi,of,[]⟩,n,r,q6,hst,hR,ω,hcq,by(first|rfl|simp only [go_sem]|(simp only [go_sem];rfl)),rfl,by simp only [go_sem]⟩)
 obtain rfl:n=K:=ω;refine aA ?_;refine dE hb0 xqf ?_
 (exact⟨p,y,⟨oc,orr,oi,of,[]⟩,n,r,q,hst,hR,ω,hq,by(first|rfl|simp only [go_sem]|(simp only [go_sem];rfl)),rfl,by simp only [go_sem]⟩)
end Go.Proofs.YthmjocibdepahaaGreat
