import Derived.Test.YtbgpfigkcpmnfaaGreatA8
import Derived.Test.YtbgpfigkcpmnfaaGreatA37
import Derived.Test.YtbgpfigkcpmnfaaGreatA6
import Derived.Test.YtbgpfigkcpmnfaaGreatA42
import Derived.Test.YtbgpfigkcpmnfaaGreatA40
import Derived.Test.YtbgpfigkcpmnfaaGreatA9
import Derived.Test.YtbgpfigkcpmnfaaGreatA5
set_option linter.unusedSimpArgs false
set_option linter.unusedVariables false
set_option maxHeartbeats 64000000
set_option maxRecDepth 100000
namespace Go.Proofs.YtbgpfigkcpmnfaaGreat
open Go Go.RowKit Rdn Rdn.Dp
theorem ykt (p:PProg) (l:PLay) (o:Rdn.Outside) (hp:okProg p) (h:xeh l p.sizes) (F:FitO o) (hi:proI p.sizes o.files.data=true):Fnc Tryz.prog 16 [xbn false p,layV false l,xct o] (fun x obs=>x=.tup [.agg [xbn false p,xd8 true (xoa p l),xct o,xcf true lk0,.sl true 18 [],.sl true 1 [.int .i64 (-1),.int .i64 (-1),.int .i64 (-1),.int .i64 (-1)]],.int .i64 0]∧obs=[]):=by
 refine zcf Tryz.prog 16 fun mz=>?_;have fs:=yl5 p l hp h;have fv:=xdr o;have hv:=xhe F;have hfd:=F.f.d;have hfl:=F.f.len;have fp:=ykq p.sizes o.files (by omega) (fun k hk=>by have:=hfl _ (xc9 hk);omega);have fc:=xec o F;have fl:=yk7;rw [hv] at fv;rw [hi] at fp;clear hv hi;generalize xoa p l=m at fs⊢;refine Fnc.intro mz (by simp) fun W S=>?_;simp only [ents,Nat.zero_add,Nat.reduceAdd,Qm,Qc,Ql,QL,Qf,Qs,Qb,Qk,QB,Qn,Qe,Qx,Qt,Qu,Q0,Q1,Qp,Qw,Qq,Qr,Qi];refine zso ?_
 (first|refine xaj (fs) ?_|refine xaa (fs) ?_);refine zev ?_
 refine zso ?_
 (first|refine xaj (fv) ?_|refine xaa (fv) ?_);refine zev ?_
 refine zso ?_
 (first|refine xaj (fp) ?_|refine xaa (fp) ?_);refine zev ?_
 refine zso ?_;refine zst ?_;refine zcd (fc) ?_;refine zcd (fl) ?_;refine xb8 5 4 102 18 rfl rfl (by decide) rfl ?_;refine zls ?_;refine xb8 5 5 3 1 rfl rfl (by decide) rfl ?_;refine zls ?_;refine xad 5 ?_;refine zst ?_;exact zrt mz
def ou0 (l:List Int) (k:Nat):Rdn.Outside:=⟨(dws l (dws l (dws l (dws l (dws l k 5).2 3).2 8).2 4).2 5).1,(dws l (dws l (dws l (dws l (dws l (dws l k 5).2 3).2 8).2 4).2 5).2 5).1,[(dws l (dws l (dws l k 5).2 3).2 8).1,(dws l (dws l (dws l (dws l k 5).2 3).2 8).2 4).1],fl0 l k,[]⟩
theorem yh5 (l:List Int) (k:Nat):FitO (ou0 l k):=by
 refine⟨?_,?_,by show(2:Nat)≤2;decide,fun x hx=>?_,yg9 l k,Nat.zero_le _,fun j hj=>absurd hj (Nat.not_lt_zero _),fun x hx=>by cases hx⟩
 ·have:=xe5 (l:=l) (k:=(dws l (dws l (dws l (dws l k 5).2 3).2 8).2 4).2) (n:=5) (by decide)
  show(dws l _ 5).1.length≤64;omega
 ·have:=xe5 (l:=l) (k:=(dws l (dws l (dws l (dws l (dws l k 5).2 3).2 8).2 4).2 5).2) (n:=5) (by decide)
  show(dws l _ 5).1.length≤64;omega
 ·have h1:=xe5 (l:=l) (k:=(dws l (dws l k 5).2 3).2) (n:=8) (by decide)
  have h2:=xe5 (l:=l) (k:=(dws l (dws l (dws l k 5).2 3).2 8).2) (n:=4) (by decide);simp only [ou0,List.mem_cons,List.not_mem_nil,or_false] at hx;rcases hx with rfl|rfl
  ·omega
  ·omega
theorem yh7 (l:List Int) (k:Nat):rngO (ou0 l k):=by
 have h:=yeh l;refine⟨h _ _,h _ _,fun w hw=>?_,fun w hw c hc=>?_⟩
 ·simp only [ou0,List.mem_cons,List.not_mem_nil,or_false] at hw
  rcases hw with rfl|rfl
  ·exact h _ _
  ·exact h _ _
 ·simp only [ou0,fl0,List.mem_cons,List.not_mem_nil,or_false] at hw
  rcases hw with rfl|rfl
  ·obtain⟨v,hv,rfl⟩:=List.mem_map.1 hc
   exact h _ _ v hv
  ·obtain⟨v,hv,rfl⟩:=List.mem_map.1 hc
   exact h _ _ v hv
structure okStart (p:PProg) (y:PLay) (o:Rdn.Outside):Prop where
 prog:okProg p
 dat:∀d∈p.data,∀v∈d,0≤v∧v≤65535
 lay:xeh y p.sizes
 out:FitO o
 rng:rngO o
 pro:proI p.sizes o.files.data=true
def run0 (p:PProg) (y:PLay) (o:Rdn.Outside):PRn:=⟨p,xoa p y,o,lk0,[],[-1,-1,-1,-1]⟩
inductive RunOf (p:PProg) (y:PLay) (o:Rdn.Outside):Nat→PRn→Prop
 |start:RunOf p y o 0 (run0 p y o)
 |step {n:Nat} {r:PRn} (c:PChoice):RunOf p y o n r→rngO r.out→xnm r=0→RunOf p y o (n+1) (xtk r c)
theorem yhy {p:PProg} {y:PLay} {o:Rdn.Outside} (h:okStart p y o):okRun 0 (run0 p y o):=
 ⟨ydp h.prog h.lay h.dat,h.out,yk5,rfl,fun j hj=>by simp [run0] at hj;omega,fun e he=>by cases he⟩
theorem RunOf.ok {p:PProg} {y:PLay} {o:Rdn.Outside} (h:okStart p y o) {n:Nat} {r:PRn} (k:RunOf p y o n r) (hn:n≤1000000):okRun (64*n) r:=by
 induction k with
 |start=>exact yhy h
 |@step n r c _ ho he ih=>
  have:=ydq (by omega) (ih (by omega)) ho c he (by omega);have e:(64:Int)*((n+1:Nat):Int)=64*n+64:=by omega
  rw [e];exact this
theorem ygw {r:PRn} {C:Int} (h:okRun C r) (t:Int):(nx4 r t).record.length≤r.record.length+8:=by
 unfold nx4;refine xa6 (P:=fun z:PRn=>z.record.length≤r.record.length+8) (fun _=>?_) fun _=>by omega
 have h1:=xoj t (endA {r with locks:=(xft r.locks t).1} (xft r.locks t).2) 4;have h2:=xoi (r:={r with locks:=(xft r.locks t).1}) (l:=(xft r.locks t).2);have h3:(xft r.locks t).2.length≤4:=(xgd h.lk t 4).2.1;dsimp only at h2;unfold endR;omega
theorem ygv (r:PRn) (q:Request):(nx3 r q).record.length≤r.record.length+2:=by
 unfold nx3;exact xa6 (P:=fun z:PRn=>z.record.length≤r.record.length+2) (fun _=>xj3 r q) fun _=>by omega
theorem yaq {r:PRn} {C:Int} (hC:0≤C) (h:okRun C r) (ho:rngO r.out) (c:PChoice) (he:xnm r=0) (hC2:C+64≤1099511627776):(xtk r c).record.length≤204:=by
 have hl:¬(rdyR r).length=0:=fun e=>by unfold xnm at he;rw [if_pos e] at he;cases he
 have hr:r.record.length≤192:=by
  unfold xnm at he;rw [if_neg hl] at he;by_cases e:r.record.length>192
  ·rw [if_pos e] at he;cases he
  ·omega
 obtain⟨t0,t1,ts⟩:=xsz hl c;obtain⟨k1,k2,k3⟩:=yeu h c t0 t1 ts;have hn:=xke c;have ho2:rngO (nx1 r c (nxtT r c)).out:=by
  unfold nx1;exact xa6 (P:=fun z:PRn=>rngO z.out) (fun _=>ho) fun _=>ho
 have k:=xnf k1.mach (t:=(nxtT r c).toNat) (by omega) hn.1 (by omega);have k4:=yev (q:=(xhw (nx1 r c (nxtT r c)).prog (nx1 r c (nxtT r c)).mach (nxtT r c).toNat (nxtN c)).2) (by omega) ((xpo k1 t0 t1 hn.1 (by omega)).le (show C+nxtN c≤C+64 by omega)) ho2 fun e=>(k.2.2.2 e).1;have l1:=ygw k4 (nxtT r c);have l2:=ygv (slcR (nx1 r c (nxtT r c)) (nxtT r c) (nxtN c)) (xhw (nx1 r c (nxtT r c)).prog (nx1 r c (nxtT r c)).mach (nxtT r c).toNat (nxtN c)).2;have l3:(slcR (nx1 r c (nxtT r c)) (nxtT r c) (nxtN c)).record.length=(nx1 r c (nxtT r c)).record.length+1:=by show(_++[_]).length=_;rw [List.length_append,List.length_singleton]
 unfold xtk xz6;omega
theorem RunOf.len {p:PProg} {y:PLay} {o:Rdn.Outside} (h:okStart p y o) {n:Nat} {r:PRn} (k:RunOf p y o n r) (hn:n≤1000000):r.record.length≤204:=by
 cases k with
 |start=>exact Nat.zero_le _
 |@step n r c k ho he=>exact yaq (by omega) (k.ok h (by omega)) ho c he (by omega)
theorem yh6 (s:List Int) (l:List Int) (k:Nat):proI s (ou0 l k).files.data=true:=by
 have key:∀w:List Int,proL s (numC w)=true:=fun w=>by
  unfold proL;rw [List.all_eq_true];intro x hx;obtain⟨v,-,rfl⟩:=List.mem_map.1 hx;exact decT (by unfold xgi;rw [if_pos (.inl rfl)];exact⟨rfl,rfl⟩)
 unfold proI;simp only [ou0,fl0,List.all_cons,key,List.all_nil,Bool.and_self,Bool.and_true]
theorem yd5 {r:PRn} (h:(runV r).wf):rngO r.out:=by
 simp only [runV,V.wf,V.wfs] at h;exact yce (by simpa only [xct,V.wf,V.wfs] using h.2.2.1)
theorem yjn (l:List Int) (k:Nat) (hk:k≤l.length):FncM Tryz.prog 7 84 (xcu l k) [] (fun x obs c=>∃(p:PProg) (y:PLay) (o:Rdn.Outside) (n:Nat) (r:PRn) (k':Nat),okStart p y o∧RunOf p y o n r∧n≤18∧k'≤l.length∧x=runV r∧obs=[]∧c=xcu l k'):=by
 refine zcf Tryz.prog 7 fun mz=>?_;refine FncM.low ?_;refine FncM.intro mz (by simp) fun W S b0 hb0=>?_;simp only [ents,Nat.zero_add,Nat.reduceAdd,Qm,Qc,Ql,QL,Qf,Qs,Qb,Qk,QB,Qn,Qe,Qx,Qt,Qu,Q0,Q1,Qp,Qw,Qq,Qr,Qi];refine zso ?_;refine xie (yjm l k hk) rfl (by simp only [go_sem];rfl) rfl (by first|rfl|(simp only [go_sem];done)) (by first|rfl|(simp only [go_sem];done)) (by first|rfl|(simp only [go_sem];done)) (by first|rfl|(simp only [go_sem];done)|(simp only [go_sem];rfl)) fun x obs d hR=>?_;obtain⟨p,q,⟨hp,hdat⟩,hq,rfl,rfl,rfl⟩:=hR;simp only [V.shift,V.shifts,xht,List.map_nil,List.append_nil,List.set_cons_zero];have q1:=xa4 hq;have m0:=xc0 (l:=l) (k:=q) (n:=1048576) (by decide);have hl:xeh (xz0 p.sizes (dnx l q 1048576)) p.sizes:=ygn hp.sz m0 _;have fl:=yjb l q hq p.sizes hp.sz;have fo:FncM Tryz.prog 18 84 (xcu l (dkx l q)) [] (fun x obs d=>x=.agg [owV (ou0 l (dkx l q)).clock,owV (ou0 l (dkx l q)).random,.sl false 1 ((ou0 l (dkx l q)).inputs.map (slV' false 1 (V.int .u16))),filV (ou0 l (dkx l q)).files,.nilS]∧obs=[]∧d=xcu l (kl0 l (dkx l q))):=yh8 l (dkx l q) q1;have q2:=yk2 q1;have hno:(ou0 l (dkx l q)).outputs=[]:=rfl;have hst:okStart p (xz0 p.sizes (dnx l q 1048576)) (ou0 l (dkx l q)):=⟨hp,hdat,hl,yh5 _ _,yh7 _ _,yh6 _ _ _⟩;generalize xz0 p.sizes (dnx l q 1048576)=y at hl fl hst;generalize ou0 l (dkx l q)=o at fo hst hno;obtain⟨oc,orr,oi,of,oo⟩:=o;dsimp only at hno;subst hno;obtain⟨o,hoo⟩:∃o:Rdn.Outside,o=⟨oc,orr,oi,of,[]⟩:=⟨_,rfl⟩;generalize kl0 l (dkx l q)=q3 at fo q2;have fb:=ykt p y _ hp hst.lay hst.out hst.pro;have hR0:RunOf p y ⟨oc,orr,oi,of,[]⟩ 0 (run0 p y ⟨oc,orr,oi,of,[]⟩):=.start;have z0:=xc0 (l:=l) (k:=q3) (n:=16) (by decide);have z1:=xc1 (l:=l) (k:=q3) (n:=16) (by decide);have q4:=xa4 q2;obtain⟨K,hK⟩:∃K:Nat,3+dnx l q3 16=K:=⟨(3+dnx l q3 16).toNat,by omega⟩;have hK18:K≤18:=by omega
 have fk:=xav l q3 16 q2 (by decide);refine zst ?_;refine zcm (fl) ?_;refine zcm (fo) ?_;refine zcd (fb) ?_;refine zcm (fk) ?_;rw [hK];refine xa7 false [0,1,2,3] [0,2,4,6] (by simp only [go_sem]) (by simp only [go_sem]) ?_;simp only [go_sem];generalize dkx l q3=q5 at q4;clear hK z0 z1;refine zlk [0,2,4] (fun z:{z:Nat×PRn×Nat // z.1≤K∧RunOf p y ⟨oc,orr,oi,of,[]⟩ z.1 z.2.1∧rngO z.2.1.out∧z.2.2≤l.length}=>[(6,.int .i64 (K-z.1.1))]) (fun z=>[⟨.box true 84,true,0,xcu l z.1.2.2⟩,⟨.box false 53,true,0,runZ⟩,⟨.box false 29,true,0,xbn false p⟩,⟨.box false 53,true,0,runV z.1.2.1⟩]) (fun z=>K-z.1.1) (⟨(0,run0 p y ⟨oc,orr,oi,of,[]⟩,q5),Nat.zero_le _,hR0,hst.rng,q4⟩) 4 ?_;intro J hJ
 rintro⟨⟨n,r,q⟩,hn,hR,hro,hq⟩
 dsimp only at hn hR hro hq;by_cases hlt:n<K
 ·have hok:=hR.ok hst (by omega)
  have hln:=hR.len hst (by omega);have fch:=yj9 l q hq;have hcq:chK l q≤l.length:=xa4 (xa4 (xa4 hq));have fn:=ykl (64*n) (by omega) (by omega) r hok hro (by omega) (chS l q);have hkj:(K:Int)-((n+1:Nat):Int)=K-n-1:=by omega
  generalize chS l q=ch at fch fn;generalize chK l q=q6 at fch hcq;by_cases he:xnm r=0
  ·have hR2:=RunOf.step ch hR hro he
   rw [if_pos he,he] at fn;generalize xtk r ch=r2 at fn hR2;simp only [];refine zst ?_;refine zcm (fch) ?_;refine zcd (fn) ?_;refine yg1 38 fun hw=>?_;have hr2:=yd5 (by simpa only [xae,if_true,if_false,Nat.reduceEqDiff] using hw);refine xa7 false [0,1,2,3] [0,2,4,6] (by simp only [go_sem]) (by simp only [go_sem]) ?_;simp only [go_sem];exact zn4 (hJ _ (⟨(n+1,r2,q6),hlt,hR2,hr2,hcq⟩) (by first|omega|(dsimp only;omega)|(simp;omega))) hkj
  ·rw [if_neg he] at fn
   refine zst ?_;refine zcm (fch) ?_;refine zcd (fn) ?_;refine zrM hb0 mz ?_
   (exact⟨p,y,⟨oc,orr,oi,of,[]⟩,n,r,q6,hst,hR,by omega,hcq,by(first|rfl|simp only [go_sem]|(simp only [go_sem];rfl)),rfl,by simp only [go_sem]⟩)
 obtain rfl:n=K:=by omega
 refine zst ?_;refine zrM hb0 mz ?_
 (exact⟨p,y,⟨oc,orr,oi,of,[]⟩,n,r,q,hst,hR,by omega,hq,by(first|rfl|simp only [go_sem]|(simp only [go_sem];rfl)),rfl,by simp only [go_sem]⟩)
instance :Inhabited PEntry:=⟨sigE 0⟩
def outK (e:PEntry):Prop:=e.kind=2∧e.req.call=13∧0<e.req.args.length∧e.res.value.tag=0∧¬e.res.value.val=65535
instance (e:PEntry):Decidable (outK e):=by unfold outK;exact inferInstance
def xkh (l:List Output) (e:PEntry):List Output:=if outK e then(sSend l e.req.args[0]!.val e.req.data).1 else l
def outR (l:List PEntry):List Output:=l.foldl xkh []
structure okOuts (l:List Output):Prop where
 n:l.length≤200
 o:xho l
theorem okOuts.short {l:List Output} (h:okOuts l) (m:Nat) (hm:16≤m):shortO m l:=fun x hx=>by
 obtain⟨j,hj,rfl⟩:=List.mem_iff_getElem.1 hx;have:=h.o j hj;rw [getElem!_pos l j hj] at this;unfold yc8 at this;omega
theorem ydc {l:List Output} (h:okOuts l) (s:Int) (d:List Canon):okOuts (sSend l s d).1:=by
 unfold sSend;split
 ·exact h
 ·rename_i c
  refine⟨by rw [List.length_append,List.length_singleton];omega,fun j hj=>?_⟩;rw [List.length_append,List.length_singleton] at hj;by_cases e:j<l.length
  ·have:=h.o j e
   rwa [show(l++[(⟨l.length,s,d⟩:Output)])[j]! =l[j]! by rw [getElem!_pos _ j (by rw [List.length_append];omega),getElem!_pos _ j e,List.getElem_append_left e]]
  ·obtain rfl:j=l.length:=by omega
   rw [show(l++[(⟨l.length,s,d⟩:Output)])[l.length]! =⟨l.length,s,d⟩ by rw [getElem!_pos _ _ (by simp),List.getElem_append_right (Nat.le_refl _)];simp];exact⟨rfl,by dsimp only;omega,by dsimp only;omega,by show d.length≤16;omega⟩
theorem xw7 {l:List Output} (h:okOuts l) (e:PEntry):okOuts (xkh l e):=by
 unfold xkh;exact xa6 (P:=okOuts) (fun _=>ydc h _ _) fun _=>h
theorem xzh {l:List PEntry} {k:Nat} (hk:k<l.length):outR (l.take (k+1))=xkh (outR (l.take k)) l[k]!:=by
 unfold outR;rw [List.take_succ_eq_append_getElem hk,List.foldl_append,getElem!_pos l k hk];rfl
theorem xzg:∀l:List PEntry,okOuts (outR l):=by
 have key:∀(l:List PEntry) (a:List Output),okOuts a→okOuts (l.foldl xkh a):=by
  intro l
  induction l with
  |nil=>exact fun a h=>h
  |cons e l ih=>exact fun a h=>ih _ (xw7 h e)
 exact fun l=>key l [] ⟨Nat.zero_le _,fun j hj=>absurd hj (Nat.not_lt_zero _)⟩
theorem ybq {e:PEntry} (h:(entV e).wf):∀c∈e.req.args,rngC c:=by
 simp only [entV,V.wf,V.wfs] at h;exact ycy (by simpa only [reqV,V.wf,V.wfs] using h.2.2.2.1)
theorem yl2 (l:List PEntry) (hl:l.length≤1000000) (hd:∀e∈l,e.req.data.length≤16):Fnc Tryz.prog 8 [.sl false 18 (l.map entV)] (fun x obs=>x=.sl false 3 ((outR l).map (xai false))∧obs=[]):=by
 refine zcf Tryz.prog 8 fun mz=>?_;refine Fnc.low ?_;refine zgo mz fun W S=>?_;refine yg1 7 fun hw=>?_;have hw:∀e∈l,∀c∈e.req.args,rngC c:=fun e he=>ybq ((by simpa only [xae,V.wf,xdw,if_true,if_false,Nat.reduceEqDiff] using hw:(∀e∈l,(entV e).wf)∧_).1 e he);refine xfc 3 false 3 rfl ?_;refine xay [7,8] (fun p:{p:Nat // p≤l.length}=>[(3,.sl false 3 ((outR (l.take p.1)).map (xai false))),(9,.int .i64 p.1)]) (fun p=>[]) (fun p=>l.length-p.1) (⟨0,by omega⟩) 0 (by simp only [go_sem];rfl) ?_ (by first|rfl|(simp only [go_sem];done)|(simp only [go_sem];simp [outR];done)) (by simp) (by first|rfl|(simp only [go_sem];done)|(simp only [outR];(try simp only [go_sem]);first|done|rfl)) (by first|rfl|(simp only [go_sem];done)) (by first|rfl|(simp only [go_sem];done)|(simp only [outR];(try simp only [go_sem]);first|done|rfl)) ?_
 ·(simp only [go_sem];(try simp [outR]);done)
 intro J hJ
 rintro⟨i,hi⟩
 have hok:=xzg (l.take i);have hon:=hok.n;by_cases hlt:i<l.length
 ·have hsn:=xzh hlt
  have hem:l[i]!∈l:=xam hlt;have hrg:=hw _ hem;have hdl:=hd _ hem;generalize outR (l.take i)=A at hok hon hsn⊢;obtain⟨e,he⟩:∃e,l[i]! =e:=⟨_,rfl⟩;rw [he] at hsn hem hrg hdl;unfold xkh at hsn;by_cases k1:e.kind=2;rotate_left
  ·rw [if_neg (fun q=>k1 q.1)] at hsn
   refine zsx he ?_;exact zn0 (hJ _ (⟨i+1,hlt⟩) (by first|omega|(dsimp only;omega)|(simp;omega))) hsn
  by_cases k2:e.req.call=13;rotate_left
  ·rw [if_neg (fun q=>k2 q.2.1)] at hsn
   refine zsx he ?_;exact zn0 (hJ _ (⟨i+1,hlt⟩) (by first|omega|(dsimp only;omega)|(simp;omega))) hsn
  by_cases k3:0<e.req.args.length;rotate_left
  ·rw [if_neg (fun q=>k3 q.2.2.1)] at hsn
   refine zsx he ?_;exact zn0 (hJ _ (⟨i+1,hlt⟩) (by first|omega|(dsimp only;omega)|(simp;omega))) hsn
  by_cases k4:e.res.value.tag=0;rotate_left
  ·rw [if_neg (fun q=>k4 q.2.2.2.1)] at hsn
   refine zsx he ?_;exact zn0 (hJ _ (⟨i+1,hlt⟩) (by first|omega|(dsimp only;omega)|(simp;omega))) hsn
  by_cases k5:e.res.value.val=65535
  ·rw [if_neg (fun q=>q.2.2.2.2 k5)] at hsn
   refine zsx he ?_;exact zn0 (hJ _ (⟨i+1,hlt⟩) (by first|omega|(dsimp only;omega)|(simp;omega))) hsn
  rw [if_pos ⟨k1,k2,k3,k4,k5⟩] at hsn;obtain⟨w0,w1⟩:=hrg _ (xam (l:=e.req.args) (k:=0) k3);have fs:=wsend_fn A e.req.args[0]!.val e.req.data (by omega) (hok.short _ (by decide)) (by omega);rw [←hsn] at fs;refine zsx he ?_;refine zcd (fs) ?_;exact zn0 (hJ _ (⟨i+1,hlt⟩) (by first|omega|(dsimp only;omega)|(simp;omega))) hsn
 obtain rfl:i=l.length:=by omega
 rw [List.take_length];refine zst ?_;exact zrt mz
end Go.Proofs.YtbgpfigkcpmnfaaGreat
namespace Rdn.Dp
open Go Go.RowKit Rdn
def dpF:Nat→AS→V→V
 |k+1,σ,.own r g=> .sl false (rowW σ r g).1 ((rowW σ r g).2.1.map (dpF k σ))
 |k+1,σ,.agg l=> .agg (l.map (dpF k σ))
 |_,σ,x=>dp1 σ x
def xme:Nat→AS→V→Prop
 |k+1,σ,.own r g=>(rowW σ r g).2.2∧∀y∈(rowW σ r g).2.1,xme k σ y
 |k+1,σ,.agg l=>∀y∈l,xme k σ y
 |_,σ,x=>xqa σ x
section
variable {cx:Cx} {E:Env} {σ:AS} {a:Act} {w:World}
theorem xrl {f:V→V} (hf:∀x,(f x).size=x.size):∀l:List V,V.sizes (l.map f)=V.sizes l
 |[]=>rfl
 |x::l=>by simp only [List.map_cons,V.sizes,hf x,xrl hf l]
theorem ybn (k:Nat):∀x:V,(dpF k σ x).size=x.size:=by
 induction k with
 |zero=>intro x;unfold dpF;exact xoh
 |succ k ih=>
  intro x;cases x with
  |own r g=>rfl
  |agg l=>simp only [dpF,V.size];exact xrl ih l
  |_=>exact xoh
theorem xu2:∀(k:Nat) {x:V},xme k σ x→(dpF k σ x).pure=true
 |0,x,h=>by unfold dpF;unfold xme at h;exact xog h
 |k+1,x,h=>by
  cases x with
  |own r g=>rfl
  |agg l=>
   simp only [dpF,V.pure];refine pures_iff.2 fun y hy=>?_;obtain⟨z,hz,rfl⟩:=List.mem_map.1 hy;exact xu2 k (h z hz)
  |_=>exact xog h
theorem xu3 (R:Rel cx E σ a w):∀(k:Nat) {x:V} {cs:List Value},xme k σ x→RdV E w x cs→RdV (argE w) w (dpF k σ x) cs
 |0,x,cs,h,hr=>by unfold dpF;unfold xme at h;exact yee R h hr
 |k+1,x,cs,h,hr=>by
  have many:∀{l:List V} {cs:List Value},(∀y∈l,xme k σ y)→RdL E w l cs→RdL (argE w) w (l.map (dpF k σ)) cs:=by
   intro l
   induction l with
   |nil=>intro cs _ h;simp only [RdL,List.map_nil] at h⊢;exact h
   |cons x l ih=>
    intro cs hk h;simp only [RdL,List.map_cons] at h⊢;obtain⟨c,ys,h1,h2,h3⟩:=h;exact⟨c,ys,h1,xu3 R k (hk x (by simp)) h2,ih (fun y hy=>hk y (by simp [hy])) h3⟩
  cases x with
  |own r g=>
   have h':=hr;simp only [RdV] at h';obtain⟨v,rfl,_⟩:=h';obtain⟨h1,h2⟩:=h;obtain⟨k',e',lv,s',l,xs,q1,q2,q3,q4,q5,q6,q7,q8,q9,q10,q11⟩:=xhq R (by simpa only [RdT] using hr) h1;rw [q4] at h2;simp only [dpF];rw [q3,q4];simp only [RdV];have hl:(l.map (dpF k σ)).length=l.length:=by simp
   refine⟨pures_iff.2 fun y hy=>?_,fun y hy=>?_,?_⟩
   ·obtain⟨z,hz,rfl⟩:=List.mem_map.1 hy
    exact xu2 k (h2 z hz)
   ·obtain⟨z,hz,rfl⟩:=List.mem_map.1 hy
    rw [ybn];exact q6 z hz
   rcases q9.2 with ⟨rfl,hn⟩|⟨b,cap,cur,rfl,m1,m2,m3,m4,m5,m6⟩
   ·exact⟨none,0,by rw [hl,hn],by omega,by omega,fun h0=>by omega⟩
   ·refine⟨_,cap,by rw [hl],by omega,by omega,fun h0=>⟨b,0,xs,rfl,xgx m2,by simp,many h2 q10,fun j v hv=>?_⟩⟩
    rw [←m6,List.getElem?_take] at hv;split at hv
    ·simpa [World.cell?,m2] using hv
    ·cases hv
  |agg l=>
   simp only [dpF,RdV] at hr⊢;exact many h hr
  |_=>exact xmq R.lt h hr
theorem yfv (R:Rel cx E σ a w) (k:Nat) {x:V} {v:Value} (h:xme k σ x) (hr:RdT E w x v):RdT (argE w) w (dpF k σ x) v:=by
 cases k with
 |zero=>
  cases x with
  |own r g=>
   have:=xu3 (x:=.own r g) R 0 h (by simpa only [RdT] using hr);simp only [dpF,dp1,RdT] at this⊢;exact this
  |_=>exact xgy (E:=E) (E0:=argE w) R.lt h hr
 |succ k=>
  cases x with
  |agg l=>
   simp only [RdT,dpF] at hr⊢;obtain⟨cs,h1,h2⟩:=hr;have:=xu3 (x:=.agg l) R (k+1) h h2;simp only [dpF] at this;exact⟨cs,h1,this⟩
  |own r g=>
   have:=xu3 (x:=.own r g) R (k+1) h (by simpa only [RdT] using hr);simp only [dpF,RdT] at this⊢;exact this
  |_=>exact xgy (E:=E) (E0:=argE w) R.lt h hr
def dpA (k:Nat) (σ:AS):V→V
 | .clo f l=> .clo f (l.map V.low)
 |x=>dpF k σ x
def xxf (k:Nat) (σ:AS):V→Prop
 | .clo f l=>l.all V.pr=true
 |x=>xme k σ x
theorem yjk (R:Rel cx E σ a w) (k:Nat) {x:V} {v:Value} (h:xxf k σ x) (hr:RdT E w x v):RdT (argE w) w (dpA k σ x) v:=by
 cases x with
 |clo f l=>
  simp only [RdT,dpA] at hr⊢;obtain⟨vs,h1,h2⟩:=hr;exact⟨vs,h1.mono fun b hb=>⟨R.lt b hb,rfl⟩,xzp R.lt h h2⟩
 |_=>exact yfv R k h hr
theorem xxg (R:Rel cx E σ a w) (k:Nat):∀{l:List V} {vs:List Value},(∀y∈l,xxf k σ y)→RdTs E w l vs→RdTs (argE w) w (l.map (dpA k σ)) vs
 |[],vs,_,h=>by simp only [RdTs,List.map_nil] at h⊢;exact h
 |x::l,vs,hk,h=>by
  simp only [RdTs,List.map_cons] at h⊢;obtain⟨v,ys,h1,h2,h3⟩:=h;exact⟨v,ys,h1,yjk R k (hk x (by simp)) h2,xxg R k (fun y hy=>hk y (by simp [hy])) h3⟩
def argP:V→Bool
 | .clo _ l=>l.all V.pr
 | .fn _=>true
 |x=>x.pure
def dpL:V→V
 | .clo f l=> .clo f (l.map V.low)
 |x=>x.low
theorem yjl {E0:Env} (hB:∀b,E.B b→E0.B b) {x:V} {v:Value} (h:argP x=true) (hr:RdT E w x v):RdT E0 w (dpL x) v:=by
 cases x with
 |clo f l=>
  simp only [RdT,dpL] at hr⊢;obtain⟨vs,h1,h2⟩:=hr;exact⟨vs,h1.mono fun b hb=>⟨hB b hb,rfl⟩,xzp hB h h2⟩
 |fn f=>simp only [RdT,dpL,V.low,RdV] at hr⊢;exact hr
 |_=>exact xgy hB h hr
theorem xxh {E0:Env} (hB:∀b,E.B b→E0.B b):∀{l:List V} {vs:List Value},(∀y∈l,argP y=true)→RdTs E w l vs→RdTs E0 w (l.map dpL) vs
 |[],vs,_,h=>by simp only [RdTs,List.map_nil] at h⊢;exact h
 |x::l,vs,hk,h=>by
  simp only [RdTs,List.map_cons] at h⊢;obtain⟨v,ys,h1,h2,h3⟩:=h;exact⟨v,ys,h1,yjl hB (hk x (by simp)) h2,xxh hB (fun y hy=>hk y (by simp [hy])) h3⟩
end
section
variable {P:Program} {cx:Cx} {N:Nat} {Q:Exit→Act→World→Prop} {k:List It} {l:List RO} {n:Nat} {t:List (Nat×V)} {ob:List Ob} {gd:Option (Nat×Bool)} {f:FuncId} {xs:List X} {ys:List V} {x:V}
theorem yj4 (m:Nat) {i:Nat} (hF:Fnc P f ys fun y obs=>y=x∧obs=[]) (h:xat ⟨n,t,ob⟩ gd=some true∧(∀y∈xs.map (X.ev ⟨n,t,ob⟩),xxf m ⟨n,t,ob⟩ y)∧(xs.map (X.ev ⟨n,t,ob⟩)).map (dpA m ⟨n,t,ob⟩)=ys∧V.pureT x=true∧x.fresh=true∧xdz (EvR P cx N Q k) [(),(),(),(),(),(),(),()] l ⟨n,(i,x)::t,ob⟩):EvR P cx N Q k (⟨some i,gd,.call f xs⟩::l) ⟨n,t,ob⟩:=by
 obtain⟨hw,hok,hy,hp,hq,h⟩:=h;have h:=xb1 h;subst hy;refine⟨fun hn E a w R ops os hcc=>?_⟩;obtain⟨o,os',rfl,h1,h2⟩:=xak hcc;obtain⟨k1,k2,k3,k4⟩:=xal h1;unfold wpList;rw [if_pos (xc6 R k2 hw)];refine .inl ?_;obtain⟨aas,hxs,hrun⟩:=xbt k1 a;unfold Oper.wp;rw [hrun w,Oper.upon_enter];have hargs:=xxg R m hok (xbz R hxs);refine(hF w (fun b=>b<w.heap.size) _ (fun _ h=>h) hargs).mono ?_
 rintro e w' ⟨y,obs,v,⟨rfl,rfl⟩,rfl,hres⟩
 obtain⟨E',_,hx',R'⟩:=R.backC (ws:=[.junk]) (fun h=>by simp [V.pures,V.pure] at h) (.inr ⟨hq,fun o ho=>by cases ho⟩) hres;rw [V.shift_pureT _ _ hp] at hx';rw [List.map_nil,List.append_nil] at R';show wpList P ops (onX P cx N Q k) os' (a.put o.dst v) w';rw [show o.dst=some i from k3];exact h.h hn E' _ w' (R'.put (d:=some i) (fun j hj=>by show j<n;rw [show n=N from hn];exact k4 j hj) hx') ops os' h2
theorem callG {i:Nat} (hF:Fnc P f ys fun y obs=>y=x∧obs=[]) (h:xat ⟨n,t,ob⟩ gd=some true∧(∀y∈xs.map (X.ev ⟨n,t,ob⟩),argP y=true)∧(xs.map (X.ev ⟨n,t,ob⟩)).map dpL=ys∧V.pureT x=true∧xdz (EvR P cx N Q k) [(),(),(),(),(),(),(),()] l ⟨n,(i,x)::t,ob⟩):EvR P cx N Q k (⟨some i,gd,.call f xs⟩::l) ⟨n,t,ob⟩:=by
 obtain⟨hw,hok,hy,hp,h⟩:=h;have h:=xb1 h;subst hy;refine⟨fun hn E a w R ops os hcc=>?_⟩;obtain⟨o,os',rfl,h1,h2⟩:=xak hcc;obtain⟨k1,k2,k3,k4⟩:=xal h1;unfold wpList;rw [if_pos (xc6 R k2 hw)];refine .inl ?_;obtain⟨aas,hxs,hrun⟩:=xbt k1 a;unfold Oper.wp;rw [hrun w,Oper.upon_enter];have hargs:=xxh (E:=E) (E0:=argS E.B) (fun b hb=>hb) hok (xbz R hxs);refine(hF w E.B _ R.lt hargs).mono ?_
 rintro e w' ⟨y,obs,v,⟨rfl,rfl⟩,rfl,hres⟩
 obtain⟨E',_,hx',R'⟩:=R.back (fun b hb=>hb) hres;rw [V.shift_pureT _ _ hp] at hx';rw [List.map_nil,List.append_nil] at R';show wpList P ops (onX P cx N Q k) os' (a.put o.dst v) w';rw [show o.dst=some i from k3];exact h.h hn E' _ w' (R'.put (d:=some i) (fun j hj=>by show j<n;rw [show n=N from hn];exact k4 j hj) hx') ops os' h2
end
end Rdn.Dp
namespace Go.Proofs.YtbgpfigkcpmnfaaGreat
open Go Go.RowKit Rdn Rdn.Dp
theorem xq0 (l:List Int) (hb:l.length≤140737488351232):Fnc Tryz.prog 62 [.sl false 1 (l.map (V.int .u8))] (fun x obs=>x=.sl true 1 (l.map (V.int .u8))∧obs=[]):=by
 refine zcf Tryz.prog 62 fun mz=>?_;refine Fnc.intro mz (by simp) fun W S=>?_;simp only [ents,Nat.zero_add,Nat.reduceAdd,Qm,Qc,Ql,QL,Qf,Qs,Qb,Qk,QB,Qn,Qe,Qx,Qt,Qu,Q0,Q1,Qp,Qw,Qq,Qr,Qi];refine zsu ?_;refine zs1 ?_;refine zsu ?_;refine xcv ?_;refine xy0 rfl trivial ?_;refine xl6 rfl rfl fun b hb0=>?_;cases b with
 |false=>
  simp only [aopP,X.ev,xae,AS.put,if_true];refine zst ?_;exact zrt mz
 |true=>
  have hl:l=[]:=by
   cases l with
   |nil=>rfl
   |cons a l=>exact absurd (hb0 (by simp)) (by simp)
  subst hl;simp only [aopP,X.ev,xae,AS.put,if_true];refine zsu ?_;refine zs1 ?_;refine zsu ?_;refine xfc 2 true 1 rfl ?_;exact zrt mz
theorem yc6 (a:List Int):(u8s a).map numV=a:=by
 rw [List.map_map];exact List.map_id'' (fun x=>rfl) a
theorem xwr (bs:ByteArray):∀(m i:Nat) (r:List UInt8),bs.size-i=m→ByteArray.toList.loop bs i r=r.reverse++bs.data.toList.drop i:=by
 intro m
 induction m with
 |zero=>
  intro i r h;rw [ByteArray.toList.loop,if_neg (by omega),List.drop_of_length_le (by simp only [Array.length_toList];exact Nat.sub_eq_zero_iff_le.1 h)];simp
 |succ m ih=>
  intro i r h;have hi:i<bs.data.toList.length:=by simp only [Array.length_toList];show i<bs.size;omega
  rw [ByteArray.toList.loop,if_pos (by show i<bs.size;omega),ih (i+1) _ (by omega),List.drop_eq_getElem_cons hi];have e:bs.get! i=bs.data.toList[i]:=by
   show bs.data[i]! =_;rw [getElem!_pos bs.data i (by simpa using hi)];simp
  rw [e,List.reverse_cons,List.append_assoc];rfl
theorem xhv (a:List Int):(strOfNums a).toList=a.map fun n=>UInt8.ofNat n.toNat:=by
 unfold ByteArray.toList;rw [xwr _ _ 0 [] rfl];simp [strOfNums]
theorem yij {a b:List Int} (ha:∀x∈a,inK .u8 x) (hb:∀x∈b,inK .u8 x):((strOfNums a).toList==(strOfNums b).toList)=decide (a=b):=by
 rw [xhv,xhv];have key:∀(a b:List Int),(∀x∈a,inK .u8 x)→(∀x∈b,inK .u8 x)→(a.map (fun n=>UInt8.ofNat n.toNat)=b.map fun n=>UInt8.ofNat n.toNat)→a=b:=by
  intro a
  induction a with
  |nil=>intro b _ _ h;cases b with
   |nil=>rfl
   |cons y b=>simp at h
  |cons x a ih=>intro b h1 h2 h;cases b with
   |nil=>simp at h
   |cons y b=>
    simp only [List.map_cons,List.cons.injEq] at h;have e:=ih b (fun z hz=>h1 z (by simp [hz])) (fun z hz=>h2 z (by simp [hz])) h.2;have hx:=xov (h1 x (by simp));have hy:=xov (h2 y (by simp));have:=congrArg UInt8.toNat h.1;simp only [UInt8.toNat_ofNat'] at this;rw [e]
    congr 1
    omega
 by_cases h:a=b
 ·subst h;simp
 ·have:¬(a.map (fun n=>UInt8.ofNat n.toNat)=b.map fun n=>UInt8.ofNat n.toNat):=fun h'=>h (key a b ha hb h')
  rw [decF h];simpa using this
attribute [local go_sem] yc6
theorem xws (a b:List Int):Fnc Tryz.prog 93 [.sl false 1 (u8s a),.sl false 1 (u8s b)] (fun x obs=>x=.bool (decide (a=b))∧obs=[]):=by
 refine zcf Tryz.prog 93 fun mz=>?_;refine Fnc.wf fun hw=>?_;simp only [V.wfs,V.wf,xdw,List.length_map] at hw;have e:=yij hw.1.1 hw.2.1.1;rw [←e];refine zgo mz fun W S=>?_;exact zrt mz
abbrev ansV (b:List Int):V:=.agg [.bool true,.sl false 1 (u8s b)]
structure Cls where
 by_:List Int
 mem:List Int
 deriving Inhabited
abbrev clsV (c:Cls):V:=.agg [.bool true,.sl false 1 (u8s c.by_),.sl false 1 (i64s c.mem)]
instance :Lo clsV clsV:=⟨fun _=>rfl,fun o=>by simp only [clsV,V.low,V.lows,xd4]⟩
theorem yfk (a b:List Int):Fnc Tryz.prog 61 [ansV a,ansV b] (fun x obs=>x=.bool (decide (a=b))∧obs=[]):=by
 refine zcf Tryz.prog 61 fun mz=>?_;refine zgo mz fun W S=>?_;refine zcd (xws a b) ?_;exact zrt mz
def clsP (a:List Int) (c:Cls):Bool:=decide (a=c.by_)
theorem yfo (a:List Int) (c:Cls):Fnc Tryz.prog 60 [clsV c,.rp (ansV a)] (fun x obs=>x=.bool (clsP a c)∧obs=[]):=by
 refine zcf Tryz.prog 60 fun mz=>?_;unfold clsP;refine zgo mz fun W S=>?_;refine zcd (yfk a c.by_) ?_;exact zrt mz
theorem yfn (a:List Int) (l:List Cls):Fnc Tryz.prog 92 [.sl false 3 (l.map clsV),.clo (.fn 60) [.rp (ansV a)]] (fun x obs=>x=.int .i64 (fnd (clsP a) l)∧obs=[]):=by
 refine zcf Tryz.prog 92 fun mz=>?_;refine Fnc.wf fun hw=>?_;have hm:l.length≤140737488355328:=by
  have:=hw.1;simp only [V.wf,List.length_map] at this;exact this.2
 clear hw;refine zgo mz fun W S=>?_;refine zlk [0,1,7] (fun p:{p:Nat // p≤l.length∧∀j,j<p→(clsP a) l[j]! =false}=>[(8,.int .i64 p.1)]) (fun _=>[]) (fun p=>l.length-p.1) (⟨0,by simp⟩) 0 ?_;intro J hJ
 rintro⟨k,hk0,hk1⟩
 by_cases hlt:k<l.length
 ·have hc:=yfo a l[k]!
  cases hb:(clsP a) l[k]! with
  |true=>
   rw [hb] at hc;have hr:=yel (p:=(clsP a)) hlt hk1 hb;refine zst ?_;refine zcv (hc) ?_;exact zrh mz hr
  |false=>
   rw [hb] at hc;have hS:∀j,j<k+1→(clsP a) l[j]! =false:=fun j hj=>by
    by_cases e:j=k
    ·subst e;exact hb
    ·exact hk1 j (by omega)
   refine zst ?_;refine zcv (hc) ?_;exact zn0 (hJ _ (⟨k+1,hlt,hS⟩) (by first|omega|(dsimp only;omega)|(simp;omega))) hlt
 ·obtain rfl:k=l.length:=by omega
  have hr:=yju (p:=(clsP a)) hk1;refine zst ?_;exact zrh mz hr
theorem yb5 (n:Int) (h:1≤n∧n≤5):Fnc Tryz.prog 30 [.int .i64 n] (fun x obs=>x=.bool true∧obs=[]):=by
 refine zcf Tryz.prog 30 fun mz=>?_;refine zgo mz fun W S=>?_;exact zrt mz
theorem yiw:Fnc Tryz.prog 33 [.int .i64 3] (fun x obs=>x=.int .i64 2∧obs=[]):=by
 refine zcf Tryz.prog 33 fun mz=>?_;have f:=yb5 3 (by decide);refine zgo mz fun W S=>?_;refine zcd (f) ?_;exact zrt mz
theorem xzo (a:List Int) (l:List Cls):Fnc Tryz.prog 59 [.sl false 3 (l.map clsV),.clo (.fn 60) [.rp (ansV a)]] (fun x obs=>x=.int .i64 (if 0≤fnd (clsP a) l then fnd (clsP a) l else l.length)∧obs=[]):=by
 refine zcf Tryz.prog 59 fun mz=>?_;have f:=yfn a l;by_cases h:0≤fnd (clsP a) l
 ·rw [if_pos h]
  refine zgo mz fun W S=>?_;refine zcd (f) ?_;exact zrt mz
 ·rw [if_neg h]
  refine zgo mz fun W S=>?_;refine zcd (f) ?_;exact zrt mz
theorem yfr (a b:List Int) (ha:a.length≤1000000) (hb:b.length≤1000000) (hne:¬a=b):Fnc Tryz.prog 29 [.sl false 2 [ansV a,ansV b,ansV a],.sl false 1 [.bool true,.bool true,.bool true]] (fun x obs=>x=.tup [.sl false 3 ([⟨a,[0,2]⟩,⟨b,[1]⟩].map clsV),.int .i64 0]∧obs=[]):=by
 refine zcf Tryz.prog 29 fun mz=>?_;refine Fnc.low ?_;have fp1:Fnc Tryz.prog 59 [.sl false 3 [],.clo (.fn 60) [.rp (ansV a)]] (fun x obs=>x=.int .i64 0∧obs=[]):=xzo a [];have fp2:Fnc Tryz.prog 59 [.sl false 3 [clsV ⟨a,[0]⟩],.clo (.fn 60) [.rp (ansV b)]] (fun x obs=>x=.int .i64 1∧obs=[]):=by
  have h:fnd (clsP b) [⟨a,[0]⟩]=-1:=by simp [fnd,clsP,Ne.symm hne]
  have:=xzo b [⟨a,[0]⟩];rw [h] at this;exact this
 have fp3:Fnc Tryz.prog 59 [.sl false 3 [clsV ⟨a,[0]⟩,clsV ⟨b,[1]⟩],.clo (.fn 60) [.rp (ansV a)]] (fun x obs=>x=.int .i64 0∧obs=[]):=by
  have h:fnd (clsP a) [(⟨a,[0]⟩:Cls),⟨b,[1]⟩]=((0:Nat):Int):=yel (p:=clsP a) (l:=[(⟨a,[0]⟩:Cls),⟨b,[1]⟩]) (k:=0) (by simp) (fun j hj=>absurd hj (Nat.not_lt_zero _)) (decide_eq_true rfl);have:=xzo a [⟨a,[0]⟩,⟨b,[1]⟩];rw [h] at this;exact this
 have fa:=xq0 a (by omega);have fb:=xq0 b (by omega);refine zgo mz fun W S=>?_;refine xad 4 ?_;refine zst ?_;refine xom 32 rfl rfl (by simp only [go_sem]) ?_;refine zcd (fp1) ?_
 (first|refine xaj (fa) ?_|refine xaa (fa) ?_);refine zev ?_
 refine zs1 ?_;refine zs1 ?_;refine zs1 ?_;refine xa8 3 rfl ?_;refine zls ?_;refine xa7 false [3] [1,6,7,9,19,20,21] (by simp only [go_sem]) (by simp only [go_sem]) ?_;simp only [go_sem];refine zst ?_;refine xom 32 rfl rfl (by simp only [go_sem]) ?_;refine yj4 2 fp2 ⟨rfl,?_,?_,rfl,rfl,?_⟩
 ·intro y hy
  simp only [go_sem,List.mem_cons,List.not_mem_nil,or_false] at hy;rcases hy with rfl|rfl
  ·simp [xxf,xme,rowW,rowV,xqa,V.pure,V.pures,xa1]
  ·rfl
 ·simp only [go_sem]
  simp [dpA,dpF,rowW,rowV,dp1,V.low,V.lows,xd4]
 simp only [go_sem];refine zst ?_
 (first|refine xaj (fb) ?_|refine xaa (fb) ?_);refine zev ?_
 refine zst ?_;refine xom 32 rfl rfl (by simp only [go_sem]) ?_;refine yj4 2 fp3 ⟨rfl,?_,?_,rfl,rfl,?_⟩
 ·intro y hy
  simp only [go_sem,List.mem_cons,List.not_mem_nil,or_false] at hy;rcases hy with rfl|rfl
  ·simp [xxf,xme,rowW,rowV,xqa,V.pure,V.pures,xa1]
  ·rfl
 ·simp only [go_sem]
  simp [dpA,dpF,rowW,rowV,dp1,V.low,V.lows,xd4]
 simp only [go_sem];refine zst ?_;refine xa5 0 0 2 2 rfl rfl rfl rfl ?_;refine zls ?_;refine xa5 0 1 2 7 rfl rfl rfl rfl ?_;refine zls ?_;refine xa2 0 rfl (by simp [V.pures,V.pure,xa1]) ?_;refine zls ?_;exact zrt mz
theorem yb4 (h:Bool) (b1 b2 m1 m2:List Int) (h2:Bool):Fnc Tryz.prog 32 [.agg [.bool h,.sl false 1 (u8s b1),.sl false 1 (i64s m1)],.agg [.bool h2,.sl false 1 (u8s b2),.sl false 1 (i64s m2)]] (fun x obs=>x=.bool (h && decide ((m1.length:Int)>m2.length))∧obs=[]):=by
 refine zcf Tryz.prog 32 fun mz=>?_;cases h with
 |true=>
  refine zgo mz fun W S=>?_;exact zrt mz
 |false=>
  refine zgo mz fun W S=>?_;exact zrt mz
theorem yiu (a b:List Int):Fnc Tryz.prog 31 [.sl false 3 ([⟨a,[0,2]⟩,⟨b,[1]⟩].map clsV),.fn 32] (fun x obs=>x=clsV ⟨a,[0,2]⟩∧obs=[]):=by
 refine zcf Tryz.prog 31 fun mz=>?_;have f1:Fnc Tryz.prog 32 [clsV ⟨a,[0,2]⟩,.agg [.bool false,.sl false 1 [],.sl false 1 []]] (fun x obs=>x=.bool true∧obs=[]):=yb4 true a [] [0,2] [] false;have f2:Fnc Tryz.prog 32 [clsV ⟨b,[1]⟩,clsV ⟨a,[0,2]⟩] (fun x obs=>x=.bool false∧obs=[]):=yb4 true b a [1] [0,2] true;refine zgo mz fun W S=>?_;refine xad 3 ?_;refine zst ?_;refine zcv (f1) ?_;refine zcv (f2) ?_;exact zrt mz
theorem yad (n r:Int) (h:n=0∧r=0∨n=1∧r=-1∨n=2∧r=1):Fnc Tryz.prog 63 [.sl false 1 [.int .i64 0,.int .i64 2],.int .i64 n] (fun x obs=>x=.int .i64 r∧obs=[]):=by
 refine zcf Tryz.prog 63 fun mz=>?_;rcases h with ⟨rfl,rfl⟩|⟨rfl,rfl⟩|⟨rfl,rfl⟩
 all_goals
  refine zgo mz fun W S=>?_;refine xad 3 ?_;refine zst ?_;exact zrt mz
theorem ya7 (n:Int) (h:n=0∨n=1∨n=2):Fnc Tryz.prog 34 [.sl false 1 [.int .i64 0,.int .i64 2],.int .i64 n] (fun x obs=>x=.bool (decide (¬n=1))∧obs=[]):=by
 refine zcf Tryz.prog 34 fun mz=>?_;rcases h with rfl|rfl|rfl
 ·have f:=yad 0 0 (by decide)
  refine zgo mz fun W S=>?_;refine zcd (f) ?_;exact zrt mz
 ·have f:=yad 1 (-1) (by decide)
  refine zgo mz fun W S=>?_;refine zcd (f) ?_;exact zrt mz
 ·have f:=yad 2 1 (by decide)
  refine zgo mz fun W S=>?_;refine zcd (f) ?_;exact zrt mz
theorem yj8 (a b:List Int) (ha:a.length≤1000000) (hb:b.length≤1000000) (hne:¬a=b):Fnc Tryz.prog 14 [.sl false 2 [ansV a,ansV b,ansV a],.sl false 1 [.bool true,.bool true,.bool true],.int .i64 2] (fun x obs=>x=.tup [.agg [.int .i64 2,.sl false 1 (u8s a),.sl false 1 [.int .i64 1]],.int .i64 0]∧obs=[]):=by
 refine zcf Tryz.prog 14 fun mz=>?_;refine Fnc.low ?_;have fc:=yfr a b ha hb hne;have fs:=yb5 2 (by decide);have fb:=yiu a b;simp only [List.map_cons,List.map_nil,clsV,i64s,u8s] at fb;have fn:Fnc Tryz.prog 33 [.int .i64 (((2:Nat):Int)+((1:Nat):Int))] (fun x obs=>x=.int .i64 2∧obs=[]):=yiw;have c0:=ya7 0 (by decide);have c1:=ya7 1 (by decide);have c2:=ya7 2 (by decide);refine zgo mz fun W S=>?_;refine zcd (fc) ?_;refine zcd (fs) ?_;refine xad 3 ?_;refine zst ?_;refine callG fb ⟨rfl,?_,?_,rfl,?_⟩
 ·intro y hy
  simp only [go_sem,List.mem_cons,List.not_mem_nil,or_false] at hy;rcases hy with rfl|rfl
  ·simp [argP,V.pure,V.pures,xa1]
  ·rfl
 ·simp only [go_sem]
  simp [dpL,V.low,V.lows,xd4]
 simp only [go_sem];refine zst ?_;refine zcd (fn) ?_;refine xad 4 ?_;refine zst ?_;refine zcd (c0) ?_;refine zcd (c1) ?_;refine zcd (c2) ?_;exact zrt mz
theorem yfg:Fnc Tryz.prog 5 [] (fun x obs=>x=.bool true∧obs=[]):=by
 refine zcf Tryz.prog 5 fun mz=>?_;have f:=yj8 [1] [2] (by decide) (by decide) (by decide);simp only [ansV,u8s,List.map_cons,List.map_nil] at f;have hs:((strOfNums [1]).toList==(ByteArray.mk #[1]).toList)=true:=by
  rw [xhv];unfold ByteArray.toList;rw [xwr _ _ 0 [] rfl];simp
 refine zgo mz fun W S=>?_;refine xqf ?_;refine zev ?_;refine zcd (f) ?_;exact zrh mz hs
end Go.Proofs.YtbgpfigkcpmnfaaGreat
namespace Go.Proofs.YtbgpfigkcpmnfaaGreat.Gt
open Go Go.RowKit Rdn Rdn.Dp
theorem xg7 (l:List Canon) (hb:l.length≤5864062014634):Fnc Tryz.prog 26 [.sl false 4 (l.map xaf)] (fun x obs=>x=.sl true 4 (l.map xaf)∧obs=[]):=by
 refine zcf Tryz.prog 26 fun mz=>?_;refine Fnc.intro mz (by simp) fun W S=>?_;simp only [ents,Nat.zero_add,Nat.reduceAdd,Qm,Qc,Ql,QL,Qf,Qs,Qb,Qk,QB,Qn,Qe,Qx,Qt,Qu,Q0,Q1,Qp,Qw,Qq,Qr,Qi];refine zsu ?_;refine zs1 ?_;refine zsu ?_;refine xcv ?_;refine xy0 rfl trivial ?_;refine xl6 rfl rfl fun b hb0=>?_;cases b with
 |false=>
  simp only [aopP,X.ev,xae,AS.put,if_true];refine zst ?_;exact zrt mz
 |true=>
  have hl:l=[]:=by
   cases l with
   |nil=>rfl
   |cons a l=>exact absurd (hb0 (by simp)) (by simp)
  subst hl;simp only [aopP,X.ev,xae,AS.put,if_true];refine zsu ?_;refine zs1 ?_;refine zsu ?_;refine xfc 2 true 4 rfl ?_;exact zrt mz
theorem xx1 (l:List Output) (hb:l.length≤3518437208880):Fnc Tryz.prog 58 [.sl false 3 (l.map (xai false))] (fun x obs=>x=.own 0 0∧obs=[⟨.row 67,true,0,.arr 3 (l.map (xai false))⟩]):=by
 refine zcf Tryz.prog 58 fun mz=>?_;refine Fnc.intro mz (by simp) fun W S=>?_;simp only [ents,Nat.zero_add,Nat.reduceAdd,Qm,Qc,Ql,QL,Qf,Qs,Qb,Qk,QB,Qn,Qe,Qx,Qt,Qu,Q0,Q1,Qp,Qw,Qq,Qr,Qi];refine zsu ?_;refine zs1 ?_;refine zsu ?_;refine xcv ?_;refine xy0 rfl trivial ?_;refine xl6 rfl rfl fun b hb0=>?_;cases b with
 |false=>
  simp only [aopP,X.ev,xae,AS.put,if_true];refine zst ?_;refine ret mz [0] ?_;exact zfn
 |true=>
  have hl:l=[]:=by
   cases l with
   |nil=>rfl
   |cons a l=>exact absurd (hb0 (by simp)) (by simp)
  subst hl;simp only [aopP,X.ev,xae,AS.put,if_true];refine zsu ?_;refine zs1 ?_;refine zsu ?_;refine xcy (i:=2) (e:=67) (s:=3) rfl (by decide) ?_;refine ret mz [0] ?_;exact zfn
def shortO (m:Nat) (l:List Output):Prop:=∀o∈l,o.data.length≤m
theorem shortO.take {m:Nat} {l:List Output} (h:shortO m l) (k:Nat):shortO m (l.take k):=fun o ho=>h o (List.mem_of_mem_take ho)
theorem yb9 (o:Output) (hd:o.data.length≤5864062014634):Fnc Tryz.prog 28 [xai false o] (fun x obs=>x=xai true o∧obs=[]):=by
 refine zcf Tryz.prog 28 fun mz=>?_;refine zgo mz fun W S=>?_;refine zcd (xg7 o.data hd) ?_;exact zrt mz
end Go.Proofs.YtbgpfigkcpmnfaaGreat.Gt
namespace Go.Proofs.YtbgpfigkcpmnfaaGreat.Gt
open Go Go.RowKit Rdn Rdn.Dp
def mixO (l:List Output) (p:Nat):List V:=(l.take p).map (xai true)++(l.drop p).map (xai false)
theorem xlc (l:List Output):mixO l l.length=l.map (xai true):=by simp [mixO]
theorem xld (l:List Output) (p:Nat):(mixO l p).length=l.length:=by simp [mixO];omega
theorem ybz {l:List Output} {p:Nat} (h:p<l.length):(mixO l p).getD p .junk=xai false l[p]!:=by
 unfold mixO;have h1:((l.take p).map (xai true)).length=p:=by simp;omega
 rw [List.getD_eq_getElem?_getD,List.getElem?_append_right (by omega),h1,Nat.sub_self];simp [h]
theorem yc0 {l:List Output} {p:Nat} (h:p<l.length):(mixO l p).set p (xai true l[p]!)=mixO l (p+1):=by
 unfold mixO;have h1:((l.take p).map (xai true)).length=p:=by simp;omega
 rw [List.set_append_right _ _ (by omega),h1,Nat.sub_self,List.drop_eq_getElem_cons h,xbl h,List.map_append,List.map_cons,List.set_cons_zero,List.map_cons,List.map_nil,List.append_assoc,List.singleton_append]
theorem xr1 (l:List Output) (p:Nat):V.pures (mixO l p)=true:=by
 unfold mixO;rw [xia,xa1,xa1];rfl
theorem xx0 (l:List Output) (hb:l.length≤3518437208880):Fnc Tryz.prog 58 [.sl false 3 (l.map (xai false))] (fun x obs=>x=.own 0 0∧obs=[⟨.row 67,true,0,.arr 3 (mixO l 0)⟩]):=xx1 l hb
theorem xw2 (m:Nat) (l:List Output) (p:Nat):V.shifts m (mixO l p)=mixO l p:=V.shifts_pure _ _ (xr1 l p)
attribute [local irreducible] mixO
attribute [local go_sem] xr1 xld xw2
theorem xed (l:List Output) (hb:l.length≤3518437208880) (hd:shortO 5864062014634 l):Fnc Tryz.prog 27 [.sl false 3 (l.map (xai false))] (fun x obs=>x=.own 0 0∧obs=[⟨.row 67,true,0,.arr 3 (l.map (xai true))⟩]):=by
 refine zcf Tryz.prog 27 fun mz=>?_;refine zgo mz fun W S=>?_;refine zcx (xx0 l hb) ?_;refine xay [3,8,9] (fun p:{p:Nat // p≤l.length}=>[(10,.int .i64 p.1)]) (fun p=>[⟨.row 67,true,0,.arr 3 (mixO l p.1)⟩]) (fun p=>l.length-p.1) (⟨0,by simp⟩) 1 (by simp only [go_sem];rfl) ?_ (by first|rfl|(simp only [go_sem];done)|(simp only [go_sem];simp [xld];done)) (by simp) (by first|rfl|(simp only [go_sem];done)) (by first|rfl|(simp only [go_sem];done)) (by first|rfl|(simp only [go_sem];done)|(simp only [xld];(try simp only [go_sem]);first|done|rfl)) ?_
 ·(simp only [go_sem];(try simp [xld]);done)
 intro J hJ
 rintro⟨k,hk0⟩
 by_cases hlt:k<l.length
 ·have hdk:l[k]!.data.length≤5864062014634:=hd _ (xc9 hlt)
  have hg:=ybz hlt;have hs:=yc0 hlt;refine zst ?_;simp only [hg];(refine zev ?_);refine zst ?_;refine zcd (yb9 l[k]! hdk) ?_;simp only [hg];(refine zev ?_);refine zst ?_;exact zn1 (hJ _ (⟨k+1,hlt⟩) (by first|omega|(dsimp only;omega)|(simp;omega))) hs
 ·obtain rfl:k=l.length:=by omega
  refine zst ?_;refine ret mz [0] ?_;(first|(simp only [go_sem];done)|(simp only [go_sem];((try dsimp only);(repeat' (refine And.intro ?_ ?_))<;>first|with_reducible rfl|(simp only [go_sem];done)|(simp only [go_sem];rfl)|(simp only [go_sem,xlc];done)|(simp only [xlc];(try simp only [go_sem]);first|done|rfl)|(simp only [go_sem];simp [xlc];done)|(simp [xlc];done)|rfl)))
theorem xk9 (s:Int) (d:List Canon):Fnc Tryz.prog 25 [.int .i64 s,.sl false 4 (d.map xaf)] (fun x obs=>x=.bool (decide (0≤s∧s<2∧d.length≤16))∧obs=[]):=by
 refine zcf Tryz.prog 25 fun mz=>?_;refine Fnc.wf fun hw=>?_;simp only [V.wfs,V.wf,List.length_map] at hw;have hm:=hw.2.1.2;clear hw;by_cases c1:0≤s
 ·by_cases c2:s<2
  ·have e:decide (0≤s∧s<2∧d.length≤16)=decide ((d.length:Int)≤16):=by rw [Bool.eq_iff_iff];simp only [decide_eq_true_eq];omega
   rw [e];refine zgo mz fun W S=>?_;exact zrt mz
  ·have e:decide (0≤s∧s<2∧d.length≤16)=false:=decF (by omega)
   rw [e];refine zgo mz fun W S=>?_;exact zrt mz
 ·have e:decide (0≤s∧s<2∧d.length≤16)=false:=decF (by omega)
  rw [e];refine zgo mz fun W S=>?_;exact zrt mz
def okO (a:Int) (j:Nat) (o:Output):Prop:=o.seq=a+j∧0≤o.socket∧o.socket<2∧o.data.length≤16
def okN (g:Gateway):Prop:=0≤g.acked∧g.acked≤g.free∧g.free≤g.next∧g.next≤200∧g.held.length≤64∧(g.held.length:Int)=g.next-g.acked
def okG (g:Gateway):Prop:=okN g∧∀j,j<g.held.length→okO g.acked j g.held[j]!
noncomputable def chk (g:Gateway):Int:=@ite _ (okG g) (Classical.propDecidable _) 0 1
theorem chk_T {g:Gateway} (h:okG g):chk g=0:=by unfold chk;exact @if_pos _ (Classical.propDecidable _) h _ _ _
theorem xij {g:Gateway} (h:¬okG g):chk g=1:=by unfold chk;exact @if_neg _ (Classical.propDecidable _) h _ _ _
theorem xl8 (g:Gateway):Fnc Tryz.prog 24 [.agg (gwL false g)] (fun x obs=>x=.int .i64 (chk g)∧obs=[]):=by
 refine zcf Tryz.prog 24 fun mz=>?_;refine Fnc.wf fun hw=>?_;simp only [gwL,V.wfs,V.wf,List.length_map] at hw;have hn:=xua hw.1.1;have hm:=hw.1.2.2.2.1.2;clear hw;by_cases c1:g.acked<0
 ·rw [xij (g:=g) fun h=>by have:=h.1.1;omega]
  refine zgo mz fun W S=>?_;exact zrt mz
 by_cases c2:g.acked>g.free
 ·rw [xij (g:=g) fun h=>by have:=h.1.2.1;omega]
  refine zgo mz fun W S=>?_;exact zrt mz
 by_cases c3:g.free>g.next
 ·rw [xij (g:=g) fun h=>by have:=h.1.2.2.1;omega]
  refine zgo mz fun W S=>?_;exact zrt mz
 by_cases c4:g.next>200
 ·rw [xij (g:=g) fun h=>by have:=h.1.2.2.2.1;omega]
  refine zgo mz fun W S=>?_;exact zrt mz
 by_cases c5:g.held.length>64
 ·rw [xij (g:=g) fun h=>by have:=h.1.2.2.2.2.1;omega]
  refine zgo mz fun W S=>?_;exact zrt mz
 by_cases c6:(g.held.length:Int)=g.next-g.acked
 ·have h0:okN g:=⟨by omega,by omega,by omega,by omega,by omega,c6⟩
  refine zgo mz fun W S=>?_;refine zlk [1,45,46] (fun p:{p:Nat // p≤g.held.length∧∀j,j<p→okO g.acked j g.held[j]!}=>[(47,.int .i64 p.1)]) (fun _=>[⟨.box false 59,true,0,.agg (gwL false g)⟩]) (fun p=>g.held.length-p.1) (⟨0,by simp⟩) 1 ?_;intro J hJ
  rintro⟨k,hk0,hk1⟩
  by_cases hlt:k<g.held.length
  ·by_cases d1:g.held[k]!.seq=g.acked+k
   ·by_cases d2:0≤g.held[k]!.socket∧g.held[k]!.socket<2∧g.held[k]!.data.length≤16
    ·have okS:∀j,j<k+1→okO g.acked j g.held[j]!:=fun j hj=>by
      by_cases e:j=k
      ·subst e;exact⟨d1,d2⟩
      ·exact hk1 j (by omega)
     refine zst ?_;refine zcd (xk9 g.held[k]!.socket g.held[k]!.data) ?_;exact zn1 (hJ _ (⟨k+1,hlt,okS⟩) (by first|omega|(dsimp only;omega)|(simp;omega))) hlt
    ·rw [xij (g:=g) fun h=>d2 (h.2 k hlt).2]
     refine zst ?_;refine zcd (xk9 g.held[k]!.socket g.held[k]!.data) ?_;exact zrt mz
   ·rw [xij (g:=g) fun h=>d1 (h.2 k hlt).1]
    refine zst ?_;exact zrt mz
  ·obtain rfl:k=g.held.length:=by omega
   rw [chk_T (g:=g) ⟨h0,hk1⟩];refine zst ?_;exact zrt mz
 ·rw [xij (g:=g) fun h=>c6 h.1.2.2.2.2.2]
  refine zgo mz fun W S=>?_;exact zrt mz
end Go.Proofs.YtbgpfigkcpmnfaaGreat.Gt
namespace Go.Proofs.YtbgpfigkcpmnfaaGreat.Gt
open Go Go.RowKit Rdn Rdn.Dp
def fitG (g:Gateway):Prop:=g.held.length≤3518437208880∧shortO 5864062014634 g.held
theorem okG.fit {g:Gateway} (h:okG g):fitG g:=⟨by have:=h.1.2.2.2.2.1;omega,fun o ho=>by
 obtain⟨i,hi,rfl⟩:=List.mem_iff_getElem.1 ho;have:=(h.2 i hi).2.2.2;rw [List.getElem!_eq_getElem?_getD,List.getElem?_eq_getElem hi] at this;simp only [Option.getD_some] at this;omega⟩
theorem xcx (g:Gateway) (hg:fitG g):Fnc Tryz.prog 23 [.agg (gwL false g)] (fun x obs=>x=.agg [.int .i64 g.next,.int .i64 g.free,.int .i64 g.acked,.own 0 0]∧obs=[⟨.row 67,true,0,.arr 3 (g.held.map (xai true))⟩]):=by
 refine zcf Tryz.prog 23 fun mz=>?_;refine zgo mz fun W S=>?_;refine zcx (xed g.held hg.1 hg.2) ?_;refine ret mz [2] ?_;exact zfn
noncomputable def sOff (g:Gateway) (s:Int) (d:List Canon):Gateway×Int×Int:=
 if chk g=1 then(g,0,1) else if s<0∨s≥2∨d.length>16 then(g,0,1)
 else if g.next=200∨g.held.length=64 then(g,0,3) else(⟨g.next+1,g.free,g.acked,g.held++[⟨g.next,s,d⟩]⟩,g.next,0)
theorem woff_fn (g:Gateway) (s:Int) (d:List Canon) (hg:fitG g):Fnc Tryz.prog 9 [.agg (gwL false g),.int .i64 s,.sl false 4 (d.map xaf)] (fun x obs=>x=.tup [.agg (gwL false (sOff g s d).1),.int .i64 (sOff g s d).2.1,.int .i64 (sOff g s d).2.2]∧obs=[]):=by
 refine zcf Tryz.prog 9 fun mz=>?_;refine Fnc.low ?_;have hC:=xl8 g;by_cases ok:okG g
 ·rw [chk_T ok] at hC
  have hl:=ok.1;unfold okN at hl;by_cases c1:0≤s∧s<2∧d.length≤16
  ·by_cases c2:g.next=200
   ·rw [show sOff g s d=(g,0,3) by rw [sOff,chk_T ok,if_neg (by omega),if_neg (by omega),if_pos (.inl c2)]]
    refine zgo mz fun W S=>?_;refine zcx (xcx g hg) ?_;refine zcd (hC) ?_;refine zcd (xk9 s d) ?_;exact zrt mz
   by_cases c3:g.held.length=64
   ·rw [show sOff g s d=(g,0,3) by rw [sOff,chk_T ok,if_neg (by omega),if_neg (by omega),if_pos (.inr c3)]]
    refine zgo mz fun W S=>?_;refine zcx (xcx g hg) ?_;refine zcd (hC) ?_;refine zcd (xk9 s d) ?_;exact zrt mz
   ·rw [show sOff g s d=(⟨g.next+1,g.free,g.acked,g.held++[⟨g.next,s,d⟩]⟩,g.next,0) by rw [sOff,chk_T ok,if_neg (by omega),if_neg (by omega),if_neg (by omega)]]
    refine zgo mz fun W S=>?_;refine zcx (xcx g hg) ?_;refine zcd (hC) ?_;refine zcd (xk9 s d) ?_;refine zcd (xg7 d (by omega)) ?_;exact zrt mz
  ·rw [show sOff g s d=(g,0,1) by rw [sOff,chk_T ok,if_neg (by omega),if_pos (by omega)]]
   refine zgo mz fun W S=>?_;refine zcx (xcx g hg) ?_;refine zcd (hC) ?_;refine zcd (xk9 s d) ?_;exact zrt mz
 ·rw [xij ok] at hC
  rw [show sOff g s d=(g,0,1) by rw [sOff,xij ok,if_pos rfl]];refine zgo mz fun W S=>?_;refine zcx (xcx g hg) ?_;refine zcd (hC) ?_;exact zrt mz
end Go.Proofs.YtbgpfigkcpmnfaaGreat.Gt
namespace Go.Proofs.YtbgpfigkcpmnfaaGreat.Gt
open Go Go.RowKit Rdn Rdn.Dp
theorem yaz (f:Output→V) (l:List Output) (k:Nat):(l.map f).take k=(l.take k).map f:=by rw [List.map_take]
theorem xxj (f:Output→V) (l:List Output) (k:Nat):(l.map f).drop k=(l.drop k).map f:=by rw [List.map_drop]
attribute [local go_sem] yaz xxj List.take_length imp_self
noncomputable def sFree (g:Gateway) (n:Int):Gateway×Int:=
 if chk g=1 then(g,1) else if n<g.free∨n>g.next then(g,35) else(⟨g.next,n,g.acked,g.held⟩,0)
noncomputable def sSend (g:Gateway):List Output×Int:=
 if chk g=1 then([],1) else(g.held.take (g.free-g.acked).toNat,0)
noncomputable def sAck (g:Gateway) (n:Int):Gateway×Int:=
 if chk g=1 then(g,1) else if n<g.acked∨n>g.free then(g,35) else(⟨g.next,g.free,n,g.held.drop (n-g.acked).toNat⟩,0)
theorem wfree_fn (g:Gateway) (n:Int) (hg:fitG g):Fnc Tryz.prog 10 [.agg (gwL false g),.int .i64 n] (fun x obs=>x=.tup [.agg (gwL false (sFree g n).1),.int .i64 (sFree g n).2]∧obs=[]):=by
 refine zcf Tryz.prog 10 fun mz=>?_;refine Fnc.low ?_;have hC:=xl8 g;by_cases ok:okG g
 ·rw [chk_T ok] at hC
  by_cases c1:n<g.free
  ·rw [show sFree g n=(g,35) by rw [sFree,chk_T ok,if_neg (by omega),if_pos (.inl c1)]]
   refine zgo mz fun W S=>?_;refine zcx (xcx g hg) ?_;refine zcd (hC) ?_;exact zrt mz
  by_cases c2:n>g.next
  ·rw [show sFree g n=(g,35) by rw [sFree,chk_T ok,if_neg (by omega),if_pos (.inr c2)]]
   refine zgo mz fun W S=>?_;refine zcx (xcx g hg) ?_;refine zcd (hC) ?_;exact zrt mz
  ·rw [show sFree g n=(⟨g.next,n,g.acked,g.held⟩,0) by rw [sFree,chk_T ok,if_neg (by omega),if_neg (by omega)]]
   refine zgo mz fun W S=>?_;refine zcx (xcx g hg) ?_;refine zcd (hC) ?_;exact zrt mz
 ·rw [xij ok] at hC
  rw [show sFree g n=(g,1) by rw [sFree,xij ok,if_pos rfl]];refine zgo mz fun W S=>?_;refine zcx (xcx g hg) ?_;refine zcd (hC) ?_;exact zrt mz
theorem wsend_fn (g:Gateway):Fnc Tryz.prog 11 [.agg (gwL false g)] (fun x obs=>x=.tup [.sl false 3 ((sSend g).1.map (xai false)),.int .i64 (sSend g).2]∧obs=[]):=by
 refine zcf Tryz.prog 11 fun mz=>?_;refine Fnc.low ?_;have hC:=xl8 g;by_cases ok:okG g
 ·rw [chk_T ok] at hC
  have hl:=ok.1;unfold okN at hl;have hf:=ok.fit;rw [show sSend g=(g.held.take (g.free-g.acked).toNat,0) by rw [sSend,chk_T ok,if_neg (by omega)]];refine zgo mz fun W S=>?_;refine zcd (hC) ?_;refine zcx (xed (g.held.take (g.free-g.acked).toNat) (by rw [List.length_take];omega) (hf.2.take _)) ?_;exact zrt mz
 ·rw [xij ok] at hC
  rw [show sSend g=([],1) by rw [sSend,xij ok,if_pos rfl]];refine zgo mz fun W S=>?_;refine zcd (hC) ?_;refine xfc 2 false 3 rfl ?_;exact zrt mz
theorem wack_fn (g:Gateway) (n:Int) (hg:fitG g):Fnc Tryz.prog 13 [.agg (gwL false g),.int .i64 n] (fun x obs=>x=.tup [.agg (gwL false (sAck g n).1),.int .i64 (sAck g n).2]∧obs=[]):=by
 refine zcf Tryz.prog 13 fun mz=>?_;refine Fnc.low ?_;have hC:=xl8 g;by_cases ok:okG g
 ·rw [chk_T ok] at hC
  have hl:=ok.1;unfold okN at hl;by_cases c1:n<g.acked
  ·rw [show sAck g n=(g,35) by rw [sAck,chk_T ok,if_neg (by omega),if_pos (.inl c1)]]
   refine zgo mz fun W S=>?_;refine zcx (xcx g hg) ?_;refine zcd (hC) ?_;exact zrt mz
  by_cases c2:n>g.free
  ·rw [show sAck g n=(g,35) by rw [sAck,chk_T ok,if_neg (by omega),if_pos (.inr c2)]]
   refine zgo mz fun W S=>?_;refine zcx (xcx g hg) ?_;refine zcd (hC) ?_;exact zrt mz
  ·rw [show sAck g n=(⟨g.next,g.free,n,g.held.drop (n-g.acked).toNat⟩,0) by rw [sAck,chk_T ok,if_neg (by omega),if_neg (by omega)]]
   refine zgo mz fun W S=>?_;refine zcx (xcx g hg) ?_;refine zcd (hC) ?_;exact zrt mz
 ·rw [xij ok] at hC
  rw [show sAck g n=(g,1) by rw [sAck,xij ok,if_pos rfl]];refine zgo mz fun W S=>?_;refine zcx (xcx g hg) ?_;refine zcd (hC) ?_;exact zrt mz
end Go.Proofs.YtbgpfigkcpmnfaaGreat.Gt
namespace Go.Proofs.YtbgpfigkcpmnfaaGreat.Gt
open Go Go.RowKit Rdn Rdn.Dp
def fitO (l:List Output):Prop:=l.length≤3518437208880∧shortO 5864062014634 l
def sTake (m:Mailbox) (e:Int) (o:Output):Mailbox×Bool×Int:=
 if m.next<0∨m.next>200∨o.seq<0∨o.seq≥200 then(m,false,1) else if e<m.epoch then(m,false,34)
 else if o.seq<m.next then(⟨m.next,e,m.taken⟩,false,0) else if o.seq>m.next then(⟨m.next,e,m.taken⟩,false,35) else(⟨m.next+1,e,m.taken++[o]⟩,true,0)
theorem wtake_fn (m:Mailbox) (e:Int) (o:Output) (hm:fitO m.taken) (ho:o.data.length≤5864062014634):Fnc Tryz.prog 12 [.agg (mbL false m),.int .i64 e,xai false o] (fun x obs=>x=.tup [.agg (mbL false (sTake m e o).1),.bool (sTake m e o).2.1,.int .i64 (sTake m e o).2.2]∧obs=[]):=by
 refine zcf Tryz.prog 12 fun mz=>?_;refine Fnc.low ?_;by_cases c1:m.next<0
 ·rw [show sTake m e o=(m,false,1) by rw [sTake,if_pos (.inl c1)]]
  refine zgo mz fun W S=>?_;refine zcx (xed m.taken hm.1 hm.2) ?_;exact zrt mz
 by_cases c2:m.next>200
 ·rw [show sTake m e o=(m,false,1) by rw [sTake,if_pos (.inr (.inl c2))]]
  refine zgo mz fun W S=>?_;refine zcx (xed m.taken hm.1 hm.2) ?_;exact zrt mz
 by_cases c3:o.seq<0
 ·rw [show sTake m e o=(m,false,1) by rw [sTake,if_pos (.inr (.inr (.inl c3)))]]
  refine zgo mz fun W S=>?_;refine zcx (xed m.taken hm.1 hm.2) ?_;exact zrt mz
 by_cases c4:o.seq≥200
 ·rw [show sTake m e o=(m,false,1) by rw [sTake,if_pos (.inr (.inr (.inr c4)))]]
  refine zgo mz fun W S=>?_;refine zcx (xed m.taken hm.1 hm.2) ?_;exact zrt mz
 have h0:¬(m.next<0∨m.next>200∨o.seq<0∨o.seq≥200):=by omega
 by_cases c5:e<m.epoch
 ·rw [show sTake m e o=(m,false,34) by rw [sTake,if_neg h0,if_pos c5]]
  refine zgo mz fun W S=>?_;refine zcx (xed m.taken hm.1 hm.2) ?_;exact zrt mz
 by_cases c6:o.seq<m.next
 ·rw [show sTake m e o=(⟨m.next,e,m.taken⟩,false,0) by rw [sTake,if_neg h0,if_neg c5,if_pos c6]]
  refine zgo mz fun W S=>?_;refine zcx (xed m.taken hm.1 hm.2) ?_;exact zrt mz
 by_cases c7:o.seq>m.next
 ·rw [show sTake m e o=(⟨m.next,e,m.taken⟩,false,35) by rw [sTake,if_neg h0,if_neg c5,if_neg c6,if_pos c7]]
  refine zgo mz fun W S=>?_;refine zcx (xed m.taken hm.1 hm.2) ?_;exact zrt mz
 ·rw [show sTake m e o=(⟨m.next+1,e,m.taken++[o]⟩,true,0) by rw [sTake,if_neg h0,if_neg c5,if_neg c6,if_neg c7]]
  have hm1:=hm.1;refine zgo mz fun W S=>?_;refine zcx (xed m.taken hm.1 hm.2) ?_;refine zcd (yb9 o ho) ?_;exact zrt mz
end Go.Proofs.YtbgpfigkcpmnfaaGreat.Gt
