import Derived.Test.YtbgpfigkcpmnfaaGreatA6
set_option linter.unusedVariables false
namespace Rdn.Dp
open Go Go.RowKit Rdn
section
variable {P:Program} {cx:Cx} {E E':Env} {σ:AS} {a:Act} {w w':World} {N:Nat} {Q:Exit→Act→World→Prop} {k:List It} {l:List RO} {n:Nat} {t:List (Nat×V)} {ob:List Ob}
theorem Gen.of {m:MOp} {x:V} {fp:List Nat} {wr:Option (Nat×Ob)} (wf:∀r o,wr=some (r,o)→r∈fp)
  (h:∀σ':AS,(∀y∈xsM m,y.ev σ'=y.ev σ)→(∀q∈fp,σ'.ob[q]?=σ.ob[q]?)→∀{cx:Cx} {E:Env} {a:Act} {w:World} {o:Oper},Rel cx E σ' a w→xg0 P o.op=some m→xce P cx E a w o x {σ' with ob:=wrOb σ'.ob wr}):Gen P σ (.m m) x fp wr:=
 ⟨wf,fun σ' h1 h2 _ {cx E a w o} R hc S hS=>xjp (h σ' h1 h2 R (xk3 hc)) (fun v w' E' L hv R'=>hS v w' E' L hv R')⟩
theorem Rel.rowAt (R:Rel cx E σ a w) {r g s:Nat} {kk:OK} {q:List V} (hk:(∃e,kk=.row e)∨∃p e,kk=.rows p e) (k1:σ.ob[r]?=some ⟨kk,true,g,.arr s q⟩):
  ∃e u xs,(kk=.row e∨∃p,kk=.rows p e)∧E.ref[r]?=some (g,u)∧Unif s q∧0<s∧q.length≤140737488355328∧w.ownsRow (kk.base cx.W.heap.size) e s u q.length xs∧RdL E w q xs∧((∃e,kk=.row e)→V.pures q=true)∧(∀b,blk u=some b→¬E.B b):=by
 obtain⟨u,h1,h2⟩:=R.ob r _ k1;unfold OkO at h2;rcases hk with ⟨e,rfl⟩|⟨p,e,rfl⟩
 ·obtain⟨s',l',xs,q1,q2,q3,q4,q5,q6,q7,q8⟩:=h2
  injection q1 with q1 q1'
  subst q1 q1';exact⟨e,u,xs,.inl rfl,h1,q3,q4,q5,q6,q7,fun _=>q2,fun b hb=>by have:=q8 b hb;simpa using this⟩
 ·obtain⟨_,s',l',xs,q1,q3,q4,q5,q6,q7,q8⟩:=h2
  injection q1 with q1 q1'
  subst q1 q1';exact⟨e,u,xs,.inr ⟨p,rfl⟩,h1,q3,q4,q5,q6,q7,fun h=>(by obtain⟨_,h⟩:=h;cases h),fun b hb=>(q8 b hb).1⟩
theorem Rel.rewr (R:Rel cx E σ a w) {r g s:Nat} {kk:OK} {q:List V} {u:Value} {b:Nat} (hk:(∃e,kk=.row e)∨∃p e,kk=.rows p e) (k1:σ.ob[r]?=some ⟨kk,true,g,.arr s q⟩) (k4:E.ref[r]?=some (g,u)) (k6:blk u=some b):
  ∃cur T xs rest,w.heap[b]?=some (.cells cur T (0,0))∧cur.toList=xs++rest∧RdL E w q xs∧
   ∀(q':List V) (zs:List Value),q'.length=q.length→Unif s q'→RdL E w q' zs→((∃e,kk=.row e)→V.pures q'=true)→
    Leads E w E (w.setRow b (zs++rest).toArray)∧Rel cx E {σ with ob:=σ.ob.set r ⟨kk,true,g,.arr s q'⟩} a (w.setRow b (zs++rest).toArray):=by
 obtain⟨u',h1,k5⟩:=R.ob r _ k1;have h1:E.ref[r]?=some (g,u'):=h1;rw [k4] at h1;injection h1 with h1
 injection h1 with _ h1
 subst h1;obtain⟨cur,T,xs,rest,m1,m2,m3,m4⟩:=k5.heap k6;simp only [RdV] at m3;refine⟨cur,T,xs,rest,m1,m2,m3.1,fun q' zs hl hU hz hp=>?_⟩;have hS:Keep (fun b'=>blk u=some b') w (w.setRow b (zs++rest).toArray):=xml w b _ k6;have L:Leads E w E (w.setRow b (zs++rest).toArray):=Leads.heap fun b' hb'=>hS.block b' (R.lt b' hb') (fun e=>k5.live_B rfl e hb');have hset:=xn9 k4;have hlen:zs.length=xs.length:=by rw [hz.len,m3.1.len,xbg hU,xbg m3.2,hl]
 have hO:=m4 (v':=.arr s q') (setRow_heap w b cur _ T (0,0) m1) hlen (by simp only [RdV];exact⟨hz.mono L,hU⟩) (by
  rcases hk with ⟨e,rfl⟩|⟨p,e,rfl⟩
  ·exact⟨s,q,q',rfl,rfl,hl,hp ⟨e,rfl⟩⟩
  ·exact⟨s,q,q',rfl,rfl,hl⟩) rfl
 obtain⟨L',R'⟩:=R.touch (o':=⟨kk,true,g,.arr s q'⟩) (u':=u) k1 rfl k4 hS rfl (.inl ⟨rfl,rfl⟩) (fun b hb=> .inl hb) (by
  rw [show(⟨kk,true,g,.arr s q'⟩:Ob).g=g from rfl,hset];exact hO)
 rw [show(⟨kk,true,g,.arr s q'⟩:Ob).g=g from rfl,hset] at R';exact⟨L,R'⟩
theorem xzv {r g s lo hi:Nat} {u v:Value} (h:RdT E w (.osl r g s lo hi) v) (hu:E.ref[r]?=some (g,u)):xzl s lo hi u v:=by
 simp only [RdT,RdV] at h;obtain⟨v',h1,_,_,h4⟩:=h;simp only [List.cons.injEq,and_true] at h1;subst h1;exact(h4 g u hu).2 rfl
theorem yke {r g s lo hi:Nat} {u v:Value} (hu:E.ref[r]?=some (g,u)) (h:xzl s lo hi u v):RdT E w (.osl r g s lo hi) v:=by
 simp only [RdT,RdV];refine⟨v,rfl,?_,(List.getElem?_eq_some_iff.1 hu).1,fun gc u' h'=>?_⟩
 ·obtain⟨A,n,c,A',_,rfl,_⟩:=h;rfl
 ·rw [hu] at h'
  injection h' with h'
  injection h' with h1 h2
  subst h1 h2;exact⟨Nat.le_refl _,fun _=>h⟩
theorem xra {base n:Nat} {e:TypeId} {s:Nat} {v:Value} {xs:List Value} (h:w.ownsRow base e s v n xs):∃A c,v=.slice A n c∧n≤c:=by
 rcases h.2 with ⟨rfl,rfl⟩|⟨g,cap,cur,rfl,_,_,hc,_⟩
 ·exact⟨_,_,rfl,Nat.le_refl _⟩
 ·exact⟨_,_,rfl,hc⟩
theorem xwa (R:Rel cx E σ a w) {o:Oper} {T e:TypeId} {i:TypeInfo} {x:Operand} {lo hi:Option Operand} {lo' hi':Option X} (ho:o.op=.slice T x lo hi none) (hT:P.underlying T=some (.slice e)) (he:P.info? e=some i) (hlo:xel lo=some lo') (hhi:xel hi=some hi')
  {A:Option Addr} {n c:Nat} (hx:a.eval x=.slice A n c) (hn:n≤c) (b1:(xa9 0 σ lo').2) (b2:(xa9 n σ hi').2) (h0:0≤(xa9 0 σ lo').1) (h1:(xa9 0 σ lo').1≤(xa9 n σ hi').1) (h2:(xa9 n σ hi').1≤n):
  (execOp a.eval o).run P w=.ok (.value (.slice (if c=(xa9 0 σ lo').1.toNat then A else A.map (·.add ((xa9 0 σ lo').1.toNat*i.size))) ((xa9 n σ hi').1.toNat-(xa9 0 σ lo').1.toNat) (c-(xa9 0 σ lo').1.toNat))) w:=by
 have B1:=xdf R hlo b1;have B2:=xdf R hhi b2;have hm:(Instr.sliceBounds true n c (lo.map a.eval) (hi.map a.eval) none).run P w=.ok ((xa9 0 σ lo').1.toNat,(xa9 n σ hi').1.toNat,c) w:=by
  refine xhu ?_ ?_ h0 h1 (by omega)
  ·rcases B1 with ⟨e,q⟩|⟨k,e⟩
   ·exact .inl ⟨e,q⟩
   ·exact .inr ⟨k,e⟩
  ·rcases B2 with ⟨e,q⟩|⟨k,e⟩
   ·exact .inl ⟨e,q⟩
   ·exact .inr ⟨k,e⟩
 simp only [execOp,ho,hx,Instr.sliceAt,Instr.slice,Sem.run_bind,run_underlying hT,Result.andThen_ok,Option.map_none,hm,Go.sizeOf,typeInfo,run_program,he,Sem.run_pure]
theorem ybk {op:Op} {s:Nat} {x:X} {lo hi:Option X} (hc:xg0 P op=some (.sl s x lo hi none)):∃T y lo' hi' e i,op=.slice T y lo' hi' none∧P.underlying T=some (.slice e)∧P.info? e=some i∧xb2 y=some x∧xel lo'=some lo∧xel hi'=some hi∧s=i.size:=by
 unfold xg0 at hc;split at hc
 case h_6 T y0 lo0 hi0 mx0=>
  split at hc
  ·rename_i h1
   split at hc
   ·rename_i h2
    simp only [Option.map_eq_some_iff,Option.bind_eq_some_iff] at hc;obtain⟨y,hx,l1,hlo,l2,hhi,l3,hmx,e⟩:=hc;injection e with e1 e2 e3 e4 e5
    subst e1 e2 e3 e4 e5;cases mx0 with
    |some z=>simp [xel] at hmx
    |none=>exact⟨_,_,_,_,_,_,rfl,h1,h2,hx,hlo,hhi,rfl⟩
   ·cases hc
  ·split at hc
   ·simp only [Option.map_eq_some_iff,Option.bind_eq_some_iff] at hc
    obtain⟨_,_,_,_,_,_,_,_,e⟩:=hc;cases e
   ·cases hc
  ·cases hc
 all_goals (repeat' split at hc)<;>first|(cases hc;done)|(simp [Option.bind_eq_some_iff] at hc;done)
theorem xfq {r g s e:Nat} {kk:OK} {q:List V} {x:X} {lo hi:Option X} (hx:x.ev σ=.own r g) (hk:kk=.row e∨∃p,kk=.rows p e) (k1:σ.ob[r]?=some ⟨kk,true,g,.arr s q⟩) (b1:(xa9 0 σ lo).2) (b2:(xa9 q.length σ hi).2) (h0:0≤(xa9 0 σ lo).1) (h1:(xa9 0 σ lo).1≤(xa9 q.length σ hi).1) (h2:(xa9 q.length σ hi).1≤q.length):
  Gen P σ (.m (.sl s x lo hi none)) (.osl r g s (xa9 0 σ lo).1.toNat (xa9 q.length σ hi).1.toNat) [r] none:=by
 have hkk:(∃e,kk=.row e)∨∃p e,kk=.rows p e:=by
  rcases hk with h|⟨p,h⟩
  ·exact .inl ⟨e,h⟩
  ·exact .inr ⟨p,e,h⟩
 refine Gen.of (fun _ _ h=>by cases h) (fun σ' hev hob {cx E a w o} R hc=>?_);obtain⟨T,y,lo',hi',e',i,e1,e2,e3,e4,e5,e6,rfl⟩:=ybk hc;have q1:σ'.ob[r]?=some ⟨kk,true,g,.arr i.size q⟩:=by rw [hob r (by simp)];exact k1
 obtain⟨e0,u,xs,_,hu,hU,hs0,hql,hown,hrd,hpu,hB⟩:=R.rowAt hkk q1;have hv:=xac R e4;rw [hev x (by simp [xsM]),hx] at hv;have hvu:a.eval y=u:=by
  simp only [RdT,RdV] at hv;obtain⟨v',m1,_,_,m4⟩:=hv;simp only [List.cons.injEq,and_true] at m1;subst m1;exact(m4 g u hu).2 rfl
 obtain⟨A,c,hA,hnc⟩:=xra hown;have bl:∀d,xa9 d σ' lo=xa9 d σ lo:=fun d=>xe3 fun z hz=>hev z (by simp [xsM,hz]);have bh:∀d,xa9 d σ' hi=xa9 d σ hi:=fun d=>xe3 fun z hz=>hev z (by simp [xsM,hz]);have hrun:=xwa (P:=P) R e1 e2 e3 e5 e6 (hvu.trans hA) hnc (by rw [bl];exact b1) (by rw [bh];exact b2) (by rw [bl];exact h0) (by rw [bl,bh];exact h1) (by rw [bh];exact h2);rw [bl,bh] at hrun;refine⟨_,w,E,.inl hrun,Leads.refl _ _,yke hu ?_,R⟩;subst hA;exact⟨A,q.length,c,_,rfl,rfl,by omega,by omega,hnc,fun h=>by rw [if_neg (by omega)]⟩
def srcP (r g s:Nat) (q:List V):V→List V×Prop
 | .sl _ s' m=>(m,m=[]∨s'=s)
 | .nilS=>([],True)
 | .osl r' g' s' lo hi=>((q.take hi).drop lo,r'=r∧g'=g∧s'=s)
 |_=>([],False)
theorem yif {r g s:Nat} {q:List V} {u:Value} {base:Nat} {e:TypeId} {xs:List Value} (hu:E.ref[r]?=some (g,u)) (hU:Unif s q) (hown:w.ownsRow base e s u q.length xs) (hrd:RdL E w q xs) {y:V} {v:Value} (hv:RdT E w y v) (h:(srcP r g s q y).2):
  ∃A c ys,v=.slice A (srcP r g s q y).1.length c∧(V.pures q=true→V.pures (srcP r g s q y).1=true)∧Unif s (srcP r g s q y).1∧RdL E w (srcP r g s q y).1 ys∧(0<(srcP r g s q y).1.length→∃b o,A=some ⟨b,o,none⟩∧At w b o ys)∧(A=none→(srcP r g s q y).1=[]):=by
 unfold srcP at h⊢;split at h
 ·rename_i t s' m
  simp only [RdT,RdV] at hv;obtain⟨h1,h2,A,c,h3,h4,h5,h6⟩:=hv;simp only [List.cons.injEq,and_true] at h3;subst h3;by_cases h0:0<m.length
  ·obtain⟨b,o,xs',hA,_,_,hr,ha⟩:=h6 h0
   have hs:s'=s:=by
    rcases h with h|h
    ·subst h;simp at h0
    ·exact h
   subst hs;exact⟨A,c,xs',rfl,fun _=>h1,h2,hr,fun _=>⟨b,o,hA,ha⟩,fun e=>by rw [hA] at e;cases e⟩
  ·have:m=[]:=List.eq_nil_of_length_eq_zero (by omega)
   subst this;exact⟨A,c,[],rfl,fun _=>rfl,fun _ h=>(by cases h),by simp [RdL],fun h=>absurd h (by simp),fun _=>rfl⟩
 ·simp only [RdT,RdV,List.cons.injEq,and_true] at hv
  subst hv;exact⟨none,0,[],rfl,fun _=>rfl,fun _ h=>(by cases h),by simp [RdL],fun h=>absurd h (by simp),fun _=>rfl⟩
 ·rename_i r' g' s' lo hi
  obtain⟨rfl,rfl,rfl⟩:=h;obtain⟨A,n,c,A',e1,e2,e3,e4,e5,e6⟩:=xzv hv hu;obtain⟨A0,c0,f1,f2⟩:=xra hown;rw [e1] at f1;injection f1 with f1 f3 f4
  subst f1 f3 f4;have hlen:((q.take hi).drop lo).length=hi-lo:=by rw [List.length_drop,List.length_take,Nat.min_eq_left e4]
  have e0:q=(q.take hi)++q.drop hi:=(List.take_append_drop hi q).symm;have hrd':RdL E w ((q.take hi)++q.drop hi) xs:=by rw [←e0];exact hrd
  obtain⟨ys,zs,rfl,k1,k2⟩:=hrd'.split;have e0':q.take hi=(q.take hi).take lo++(q.take hi).drop lo:=(List.take_append_drop lo _).symm;have k1':RdL E w ((q.take hi).take lo++(q.take hi).drop lo) ys:=by rw [←e0'];exact k1
  obtain⟨ys1,ys2,rfl,m1,m2⟩:=k1'.split;have hl1:ys1.length=lo*s':=by
   rw [m1.len,xbg ((hU.take hi).take lo),List.length_take,List.length_take,Nat.min_eq_left e4,Nat.min_eq_left e3,Nat.mul_comm]
  refine⟨A',c-lo,ys2,by rw [hlen];exact e2,fun hp=>pures_iff.2 fun x hx=>pures_iff.1 hp x (List.mem_of_mem_take (List.mem_of_mem_drop hx)),(hU.take hi).drop lo,m2,fun h0=>?_,fun hA=>?_⟩
  ·rw [hlen] at h0
   have hlt:lo<c:=by omega
   rcases hown.2 with ⟨f1,f2⟩|⟨gb,cap,cur,f1,f2,f3,f4,f5,f6,f7⟩
   ·omega
   ·rw [e1] at f1
    injection f1 with f1 _ f8
    subst f1 f8;refine⟨gb,lo*s',by rw [e6 hlt];simp [Addr.add_lit],fun j v hj=>?_⟩;have hjl:j<ys2.length:=(List.getElem?_eq_some_iff.1 hj).1;have hx:(ys1++ys2++zs)[lo*s'+j]?=some v:=by
     rw [List.append_assoc,List.getElem?_append_right (by omega),hl1,Nat.add_sub_cancel_left,List.getElem?_append_left hjl];exact hj
    rw [←f7,List.getElem?_take] at hx;split at hx
    ·simpa [World.cell?,f3] using hx
    ·cases hx
  ·by_cases h0:lo<hi
   ·have hlt:lo<c:=by omega
    rcases hown.2 with ⟨f1,f2⟩|⟨gb,cap,cur,f1,f2,f3,f4,f5,f6,f7⟩
    ·omega
    ·rw [e1] at f1
     injection f1 with f1 _ _
     subst f1;have:=e6 hlt;rw [hA] at this;cases this
   ·exact List.eq_nil_of_length_eq_zero (by rw [hlen];omega)
 ·exact h.elim
theorem RdL.cutAt {s:Nat} {q:List V} {xs:List Value} (h:RdL E w q xs) (hU:Unif s q) (j:Nat) (hj:j≤q.length):RdL E w (q.take j) (xs.take (j*s))∧RdL E w (q.drop j) (xs.drop (j*s)):=by
 have e0:q=(q.take j)++q.drop j:=(List.take_append_drop j q).symm;have h':RdL E w ((q.take j)++q.drop j) xs:=by rw [←e0];exact h
 obtain⟨ys,zs,rfl,k1,k2⟩:=h'.split;have hl:ys.length=j*s:=by rw [k1.len,xbg (hU.take j),List.length_take,Nat.min_eq_left hj,Nat.mul_comm]
 rw [List.take_left' hl,List.drop_left' hl];exact⟨k1,k2⟩
def over (q:List V) (j:Nat) (m:List V):List V:=q.take j++m++q.drop (j+m.length)
theorem xjk {q m:List V} {j:Nat} (h:j+m.length≤q.length):(over q j m).length=q.length:=by
 simp only [over,List.length_append,List.length_take,List.length_drop];omega
theorem yha {s:Nat} {q m:List V} {xs ys:List Value} {j:Nat} (h:RdL E w q xs) (hU:Unif s q) (hm:RdL E w m ys) (hUm:Unif s m) (hj:j+m.length≤q.length):
  RdL E w (over q j m) (xs.take (j*s)++ys++xs.drop (j*s+ys.length))∧Unif s (over q j m):=by
 have hyl:ys.length=m.length*s:=by rw [hm.len,xbg hUm,Nat.mul_comm]
 refine⟨?_,fun x hx=>?_⟩
 ·rw [hyl,←Nat.add_mul]
  exact((h.cutAt hU j (by omega)).1.app hm).app (h.cutAt hU (j+m.length) hj).2
 ·simp only [over,List.mem_append] at hx
  rcases hx with (hx|hx)|hx
  ·exact hU x (List.mem_of_mem_take hx)
  ·exact hUm x hx
  ·exact hU x (List.mem_of_mem_drop hx)
theorem xjl (q:List V) (j:Nat):over q j []=q:=by simp [over]
theorem xw8 {cur xs rest ys:List Value} {o:Nat} (h:cur=xs++rest) (hl:o+ys.length≤xs.length):cur.take o++ys++cur.drop (o+ys.length)=(xs.take o++ys++xs.drop (o+ys.length))++rest:=by
 subst h;rw [List.take_append_of_le_length (by omega),List.drop_append_of_le_length hl];simp [List.append_assoc]
theorem Rel.over (R:Rel cx E σ a w) {r g s:Nat} {kk:OK} {q m:List V} {u:Value} {ys:List Value} {j:Nat} (hk:(∃e,kk=.row e)∨∃p e,kk=.rows p e) (k1:σ.ob[r]?=some ⟨kk,true,g,.arr s q⟩) (k4:E.ref[r]?=some (g,u)) (hU:Unif s q) (hm:RdL E w m ys) (hUm:Unif s m) (hp:(∃e,kk=.row e)→V.pures (over q j m)=true) (hj:j+m.length≤q.length) (h0:0<m.length):
  ∃b cur T c,u=.slice (some ⟨b,0,none⟩) q.length c∧w.heap[b]?=some (.cells cur T (0,0))∧j*s+ys.length≤cur.size∧q.length≤c∧Leads E w E (w.setRow b (cur.toList.take (j*s)++ys++cur.toList.drop (j*s+ys.length)).toArray)∧
   Rel cx E {σ with ob:=σ.ob.set r ⟨kk,true,g,.arr s (Dp.over q j m)⟩} a (w.setRow b (cur.toList.take (j*s)++ys++cur.toList.drop (j*s+ys.length)).toArray):=by
 obtain⟨e,u',xs0,_,hu,_,hs0,hql,hown,hrd,hpu,hB⟩:=R.rowAt hk k1;rw [k4] at hu;injection hu with hu
 injection hu with _ hu
 subst hu;rcases hown.2 with ⟨rfl,f2⟩|⟨gb,cap,cur0,rfl,f2,f3,f4,f5,f6,f7⟩
 ·omega
 obtain⟨cur,T,xs,rest,m1,m2,m3,m4⟩:=R.rewr (b:=gb) hk k1 k4 rfl;have hxl:xs.length=q.length*s:=by rw [m3.len,xbg hU,Nat.mul_comm]
 have hyl:ys.length=m.length*s:=by rw [hm.len,xbg hUm,Nat.mul_comm]
 have hle:j*s+ys.length≤xs.length:=by rw [hyl,hxl,←Nat.add_mul];exact Nat.mul_le_mul_right _ hj
 obtain⟨h1,h2⟩:=yha m3 hU hm hUm hj;obtain⟨L,R'⟩:=m4 _ _ (xjk hj) h2 h1 hp;rw [←xw8 m2 hle] at L R';refine⟨gb,cur,T,cap,rfl,m1,?_,f4,L,R'⟩;rw [←Array.length_toList,m2,List.length_append];omega
theorem xx3 {op:Op} {e s b:Nat} {x y:X} (hc:xg0 P op=some (.app e s b x y)):∃x0 y0 t i z,op=.call {callee:=.builtin .append,args:=#[x0,y0],argTypes:=#[t,t]}∧P.underlying t=some (.slice e)∧P.info? e=some i∧i.zero=some z∧z.cells.size=i.size∧0<i.size∧xb2 x0=some x∧xb2 y0=some y∧s=i.size∧b=i.bytes:=by
 unfold xg0 at hc;split at hc
 case h_8 b aas ts=>
  split at hc
  ·rename_i x y t t' e1 e2
   obtain⟨aas⟩:=aas;obtain⟨ts⟩:=ts;have e1:aas=[x,y]:=e1;have e2:ts=[t,t']:=e2;subst e1 e2;split at hc
   ·rename_i ht
    subst ht;split at hc
    ·rename_i h1
     split at hc
     ·rename_i h2
      split at hc
      ·rename_i h3
       split at hc
       ·rename_i h4
        simp only [Option.map_eq_some_iff,Option.bind_eq_some_iff] at hc;obtain⟨x',hx,y',hy,e⟩:=hc;injection e with e1 e2 e3 e4 e5
        subst e1 e2 e3 e4 e5;exact⟨_,_,_,_,_,rfl,h1,h2,h3,h4.1,h4.2,hx,hy,rfl,rfl⟩
       ·cases hc
      ·cases hc
     ·cases hc
    ·cases hc
   ·(repeat' split at hc)<;>first|(cases hc;done)|(simp [Option.bind_eq_some_iff] at hc;done)
  ·(repeat' split at hc)<;>first|(cases hc;done)|(simp [Option.bind_eq_some_iff] at hc;done)
  ·cases hc
 all_goals (repeat' split at hc)<;>first|(cases hc;done)|(simp [Option.bind_eq_some_iff] at hc;done)
theorem xvr {op:Op} {e s:Nat} {x y:X} (hc:xg0 P op=some (.copy e s x y)):∃x0 y0 t i,op=.call {callee:=.builtin .copy,args:=#[x0,y0],argTypes:=#[t,t]}∧P.underlying t=some (.slice e)∧P.info? e=some i∧0<i.size∧xb2 x0=some x∧xb2 y0=some y∧s=i.size:=by
 unfold xg0 at hc;split at hc
 case h_8 b aas ts=>
  split at hc
  ·(repeat' split at hc)<;>first|(cases hc;done)|(simp [Option.bind_eq_some_iff] at hc;done)
  ·rename_i x y t t' e1 e2
   obtain⟨aas⟩:=aas;obtain⟨ts⟩:=ts;have e1:aas=[x,y]:=e1;have e2:ts=[t,t']:=e2;subst e1 e2;split at hc
   ·rename_i ht
    subst ht;split at hc
    ·rename_i h1
     split at hc
     ·rename_i h2
      split at hc
      ·rename_i h4
       simp only [Option.map_eq_some_iff,Option.bind_eq_some_iff] at hc;obtain⟨x',hx,y',hy,e⟩:=hc;injection e with e1 e2 e3 e4
       subst e1 e2 e3 e4;exact⟨_,_,_,_,rfl,h1,h2,h4,hx,hy,rfl⟩
      ·cases hc
     ·cases hc
    ·cases hc
   ·cases hc
  ·cases hc
 all_goals (repeat' split at hc)<;>first|(cases hc;done)|(simp [Option.bind_eq_some_iff] at hc;done)
theorem xtd (w:World) {t ty e:TypeId} {i:TypeInfo} (hu:P.underlying t=some (.slice e)) (hi:P.info? e=some i) (gb o dLen dCap:Nat) (ad:Addr) (m c:Nat) (cur:Array Value) (T:TypeId) (cs:List Value)
  (hg:w.heap[gb]?=some (.cells cur T (0,0))) (hl:cs.length=Nat.min m dLen*i.size) (hsrc:∀j v,cs[j]?=some v→w.cell? (ad.add j)=some v) (hfit:o+cs.length≤cur.size) (h1:∀v∈cs,v.oneCell'=true):
  (Builtin.copy_ #[t,t] ty #[.slice (some ⟨gb,o,none⟩) dLen dCap,.slice (some ad) m c]).run P w=
   .ok (.int .i64 (Nat.min m dLen:Nat)) (w.setRow gb (cur.toList.take o++cs++cur.toList.drop (o+cs.length)).toArray):=by
 have hl':=run_firstCells_some (P:=P) w i.size (Nat.min m dLen) ad m c cs hl hsrc;have hst:=run_storeCells_at P gb o T cs 0 cur w hg (by simpa using hfit) h1;simp only [Nat.add_zero] at hst;simp [Builtin.copy_,run_underlying hu,Builtin.lenOf,Go.sizeOf,typeInfo,hi,hl',hst,goInt]
theorem xpj (w:World) {t ty e:TypeId} {i:TypeInfo} (hu:P.underlying t=some (.slice e)) (hi:P.info? e=some i) (A A':Option Addr) (dLen dCap m c:Nat) (h0:Nat.min m dLen=0):
  (Builtin.copy_ #[t,t] ty #[.slice A dLen dCap,.slice A' m c]).run P w=.ok (.int .i64 0) w:=by
 cases A<;>cases A'<;>simp [Builtin.copy_,run_underlying hu,Go.sizeOf,typeInfo,hi,Builtin.lenOf,Builtin.firstCells,loadCells,loadCellsFrom,storeCells,h0,goInt]
attribute [go_sem] wrOb
end
end Rdn.Dp
