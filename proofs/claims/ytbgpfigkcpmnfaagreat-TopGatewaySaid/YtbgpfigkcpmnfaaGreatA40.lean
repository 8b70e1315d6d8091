import Derived.Test.YtbgpfigkcpmnfaaGreatA38
import Derived.Test.YtbgpfigkcpmnfaaGreatA8
import Derived.Test.YtbgpfigkcpmnfaaGreatA39
import Derived.Test.YtbgpfigkcpmnfaaGreatA6
set_option linter.unusedSimpArgs false
set_option linter.unusedVariables false
set_option maxHeartbeats 64000000
set_option maxRecDepth 100000
namespace Rdn.Dp
open Go Go.RowKit Rdn
section
variable {P:Program} {cx:Cx} {E:Env} {a:Act} {w:World} {N:Nat} {Q:Exit→Act→World→Prop} {k:List It} {l:List RO} {n:Nat} {t:List (Nat×V)} {ob:List Ob}
theorem Rel.cutRow (R:Rel cx E ⟨n,t,ob⟩ a w) {i r g e s j:Nat} {q:List V} (hi:xae t i=.osl r g s 0 j) (hr:ob[r]?=some ⟨.row e,true,g,.arr s q⟩) (hj:0<j):∃E',Rel cx E' ⟨n,(i,.own r (g+1))::t,ob.set r ⟨.row e,true,g+1,.arr s (q.take j)⟩⟩ a w:=by
 have hv:RdT E w (xae t i) (a.tmps.getD i undef):=R.tm i;rw [hi] at hv;obtain⟨e0,u,xs,he0,k1,hU,hs0,hql,hown,hrd,hpu,hB⟩:=R.rowAt (.inl ⟨e,rfl⟩) hr;obtain⟨A,n',c,A',f1,f2,f3,f4,f5,f6⟩:=xzv hv k1;rw [show e0=e from by rcases he0 with h|⟨_,h⟩<;>cases h<;>rfl] at hown;generalize hV:a.tmps.getD i undef=v at f2;have hrl:=(List.getElem?_eq_some_iff.1 k1).1;have hbk:blk v=blk u:=by rw [f1,f2,f6 (by omega)];cases A<;>simp [blk,Addr.add]
 have hq:j≤q.length:=by
  rcases hown.2 with ⟨g1,g2⟩|⟨gb,cap,cur,g1,_⟩
  ·rw [g1] at f1;injection f1 with _ f1 _;omega
  ·rw [g1] at f1;injection f1 with _ f1 _;omega
 have L0:Leads E w {E with ref:=E.ref.set r (g+1,v)} w:=by
  refine⟨fun b hb'=>⟨hb',rfl⟩,fun _ h=>h,by simp,fun r' g' v' hr' h=>?_⟩;by_cases e:r=r'
  ·subst e
   rw [List.getElem?_set_self hrl] at h;injection h with h
   injection h with h1 h2
   subst h1 h2;exact⟨g,u,k1,by omega,fun e=>by omega⟩
  ·rw [List.getElem?_set_ne e] at h
   exact⟨g',v',h,Nat.le_refl _,fun _=>rfl⟩
 obtain⟨c1,c2⟩:=hrd.cutAt hU j hq;have hown':w.ownsRow cx.W.heap.size e s v (q.take j).length (xs.take (j*s)):=by
  have hlen:(q.take j).length=j:=by rw [List.length_take];omega
  rw [hlen];refine⟨by rw [List.length_take,hown.1];exact Nat.min_eq_left (Nat.mul_le_mul_right s hq),.inr ?_⟩;rcases hown.2 with ⟨g1,g2⟩|⟨gb,cap,cur,g1,g2,g3,g4,g5,g6,g7⟩
  ·omega
  ·rw [g1] at f1
   injection f1 with h1 h2 h3
   subst h1 h2 h3;refine⟨gb,cap,cur,?_,g2,g3,by omega,g5,g6,?_⟩
   ·rw [f2,f6 (by omega)];simp [Addr.add_lit]
   ·rw [←g7,List.take_take,Nat.min_eq_left (Nat.mul_le_mul_right s hq)]
 have ho:OkO cx {E with ref:=E.ref.set r (g+1,v)} w ⟨.row e,true,g+1,.arr s (q.take j)⟩ v:=by
  unfold OkO;refine⟨s,q.take j,xs.take (j*s),rfl,?_,fun x hx=>hU x (List.mem_of_mem_take hx),hs0,by rw [List.length_take];omega,hown',c1.mono L0,fun b hb=>?_⟩
  ·rw [pures_iff]
   exact fun x hx=>pures_iff.1 (hpu ⟨e,rfl⟩) x (List.mem_of_mem_take hx)
  ·have:=hB b (by rw [←hbk];exact hb)
   simpa using this
 obtain⟨L,R'⟩:=R.touch (o':=⟨.row e,true,g+1,.arr s (q.take j)⟩) (u':=v) hr rfl k1 (Keep.refl _ _) rfl (.inr rfl) (fun b hb=> .inl (by rw [←hbk];exact hb)) ho;refine⟨_,R'.df,R'.n,fun i'=>?_,R'.len,R'.ob,R'.sep,R'.lt,R'.fr,R'.old,R'.keep⟩;show RdT _ w (xae ((i,.own r (g+1))::t) i') _;simp only [xae];by_cases e:i=i'
 ·rw [if_pos e]
  subst e;rw [hV];simp only [RdT,RdV];refine⟨v,rfl,by rw [f2];rfl,by simpa using hrl,fun gc u' h=>?_⟩;rw [List.getElem?_set_self hrl] at h;injection h with h
  injection h with e1 e2
  subst e1 e2;exact⟨Nat.le_refl _,fun _=>rfl⟩
 ·rw [if_neg e]
  exact R'.tm i'
theorem xnt (i r:Nat) {g e s j:Nat} {q:List V} (hi:xae t i=.osl r g s 0 j) (hr:ob[r]?=some ⟨.row e,true,g,.arr s q⟩) (hj:0<j) (h:EvR P cx N Q k l ⟨n,(i,.own r (g+1))::t,ob.set r ⟨.row e,true,g+1,.arr s (q.take j)⟩⟩):EvR P cx N Q k l ⟨n,t,ob⟩:=by
 refine⟨fun hn E a w R=>?_⟩;obtain⟨E',R'⟩:=R.cutRow hi hr hj;exact h.h hn E' a w R'
end
end Rdn.Dp
namespace Go.Proofs.YtbgpfigkcpmnfaaGreat
open Go Go.RowKit Rdn Rdn.Dp
theorem xfg (r n:Int):Fnc Tryz.prog 38 [.int .i64 r,.int .i64 n] (fun x obs=>x=xcj ⟨1,r,0,0,n⟩∧obs=[]):=by
 refine zcf Tryz.prog 38 fun mz=>?_;refine zgo mz fun W S=>?_;exact zrt mz
theorem xhb (a b:Int):Fnc Tryz.prog 65 [.int .i64 a,.int .i64 b] (fun x obs=>x=xcj ⟨2,a,b,0,0⟩∧obs=[]):=by
 refine zcf Tryz.prog 65 fun mz=>?_;refine zgo mz fun W S=>?_;exact zrt mz
theorem xbf (n:Int):Fnc Tryz.prog 39 [.int .i64 n] (fun x obs=>x=xcj ⟨23,0,0,0,n⟩∧obs=[]):=by
 refine zcf Tryz.prog 39 fun mz=>?_;refine zgo mz fun W S=>?_;exact zrt mz
theorem yjb (l:List Int) (k:Nat) (hk:k≤l.length) (s:List Int) (hs:okSz s):FncM Tryz.prog 17 84 (xcu l k) [.sl false 1 (i64s s)] (fun x obs c=>x=layV false (xz0 s (dnx l k 1048576))∧obs=[]∧c=xcu l (dkx l k)):=by
 refine zcf Tryz.prog 17 fun mz=>?_;refine FncM.low ?_;have h0:=xc0 (l:=l) (k:=k) (n:=1048576) (by decide);have h1:=xc1 (l:=l) (k:=k) (n:=1048576) (by decide);have fm:=ykb s (dnx l k 1048576) hs h0 (by omega);refine zgM mz fun W S b0 hb0=>?_;refine zcm (xav l k 1048576 hk (by decide)) ?_;refine zcd (fm) ?_;exact zrm hb0 mz
def chB (l:List Int) (k:Nat):Int:=[0,1,2,3,7,63][(dnx l k 6).toNat]!
def chS (l:List Int) (k:Nat):PChoice:=⟨dnx l k 4,chB l (dkx l k),decide (dnx l (dkx l (dkx l k)) 4=0)⟩
def chK (l:List Int) (k:Nat):Nat:=dkx l (dkx l (dkx l k))
theorem yj9 (l:List Int) (k:Nat) (hk:k≤l.length):FncM Tryz.prog 21 84 (xcu l k) [] (fun x obs c=>x=xoe (chS l k)∧obs=[]∧c=xcu l (chK l k)):=by
 refine zcf Tryz.prog 21 fun mz=>?_;have h0:=xc0 (l:=l) (k:=dkx l k) (n:=6) (by decide);have h1:=xc1 (l:=l) (k:=dkx l k) (n:=6) (by decide);have k1:=xa4 hk;have k2:=xa4 k1;have hi:dnx l (dkx l k) 6=0∨dnx l (dkx l k) 6=1∨dnx l (dkx l k) 6=2∨dnx l (dkx l k) 6=3∨dnx l (dkx l k) 6=4∨dnx l (dkx l k) 6=5:=by omega
 have f1:=xav l k 4 hk (by decide);have f2:=xav l (dkx l k) 6 k1 (by decide);have f3:=xav l (dkx l (dkx l k)) 4 k2 (by decide);unfold chS chB chK;generalize dnx l (dkx l k) 6=b at f2 hi⊢;clear h0 h1;rcases hi with rfl|rfl|rfl|rfl|rfl|rfl
 all_goals
  refine zgM mz fun W S b0 hb0=>?_;refine zcm (f1) ?_;refine zcm (f2) ?_;refine zcm (f3) ?_;exact zrm hb0 mz
def xys (S:List Int):Prop:=∀n∈S,1≤n∧n≤32
theorem xiw {S:List Int} {x:Int} (h:xys S) (hx:1≤x∧x≤32):xys (S++[x]):=fun n hn=>by
 rcases List.mem_append.1 hn with hn|hn
 ·exact h n hn
 ·rw [List.mem_singleton] at hn;subst hn;exact hx
theorem yl6 (l:List Int) (k:Nat) (hk:k≤l.length):FncM Tryz.prog 35 84 (xcu l k) [] (fun x obs c=>∃(s:List Int) (k':Nat),okSz s∧k'≤l.length∧x=.sl false 1 (i64s s)∧obs=[]∧c=xcu l k'):=by
 refine zcf Tryz.prog 35 fun mz=>?_;refine FncM.low ?_;have h0:=xc0 (l:=l) (k:=k) (n:=9) (by decide);have h1:=xc1 (l:=l) (k:=k) (n:=9) (by decide);have k1:=xa4 hk;have k2:=xa4 k1;have h2:=xc0 (l:=l) (k:=dkx l k) (n:=4) (by decide);have h3:=xc1 (l:=l) (k:=dkx l k) (n:=4) (by decide);have f1:=xav l k 9 hk (by decide);have f2:=xav l (dkx l k) 4 k1 (by decide);generalize dnx l k 9=n0 at f1 h0 h1;obtain⟨K,hK⟩:∃K:Nat,dnx l (dkx l k) 4=K:=⟨_,(Int.toNat_of_nonneg h2).symm⟩;rw [hK] at f2 h3;refine zgM mz fun W S b0 hb0=>?_;refine zcm (f1) ?_;refine zcm (f2) ?_;refine zlk [0] (fun p:{p:Nat×List Int×Nat // p.1≤K∧p.2.1.length=p.1+1∧xys p.2.1∧p.2.2≤l.length}=>[(3,.own 1 p.1.1),(4,.int .i64 (K-p.1.1))]) (fun p=>[⟨.box true 84,true,0,xcu l p.1.2.2⟩,⟨.row 3,true,p.1.1,.arr 1 (i64s p.1.2.1)⟩]) (fun p=>K-p.1.1) (⟨(0,[4+n0],dkx l (dkx l k)),by omega,rfl,by intro n hn;simp at hn;omega,k2⟩) 2 ?_;intro J hJ
 rintro⟨⟨i,S,q⟩,hi,hS,hL,hq⟩
 dsimp only at hi hS hL hq;by_cases hlt:i<K
 ·skip
  have g0:=xc0 (l:=l) (k:=q) (n:=3) (by decide);have g1:=xc1 (l:=l) (k:=q) (n:=3) (by decide);have q1:=xa4 hq;have q2:=xa4 q1;have e1:=xav l q 3 hq (by decide);have hc:dnx l q 3=0∨dnx l q 3=1∨dnx l q 3=2:=by omega
  generalize dnx l q 3=b at e1 hc;rcases hc with rfl|rfl|rfl
  ·have e2:=xav l (dkx l q) 6 q1 (by decide)
   have g2:=xc0 (l:=l) (k:=dkx l q) (n:=6) (by decide);have g3:=xc1 (l:=l) (k:=dkx l q) (n:=6) (by decide);have hsn:i64s (S++[1+dnx l (dkx l q) 6])=i64s S++[.int .i64 (1+dnx l (dkx l q) 6)]:=by simp [i64s]
   refine zst ?_;refine zcm (e1) ?_;refine zcm (e2) ?_;exact zn2 (hJ _ (⟨(i+1,S++[1+dnx l (dkx l q) 6],dkx l (dkx l q)),by omega,by rw [List.length_append,List.length_singleton,hS],xiw hL ⟨by omega,by omega⟩,q2⟩) (by first|omega|(dsimp only;omega)|(simp;omega))) hsn
  ·have e2:=xav l (dkx l q) 12 q1 (by decide)
   have g2:=xc0 (l:=l) (k:=dkx l q) (n:=12) (by decide);have g3:=xc1 (l:=l) (k:=dkx l q) (n:=12) (by decide);have hsn:i64s (S++[1+dnx l (dkx l q) 12])=i64s S++[.int .i64 (1+dnx l (dkx l q) 12)]:=by simp [i64s]
   refine zst ?_;refine zcm (e1) ?_;refine zcm (e2) ?_;exact zn2 (hJ _ (⟨(i+1,S++[1+dnx l (dkx l q) 12],dkx l (dkx l q)),by omega,by rw [List.length_append,List.length_singleton,hS],xiw hL ⟨by omega,by omega⟩,q2⟩) (by first|omega|(dsimp only;omega)|(simp;omega))) hsn
  ·have e2:=xav l (dkx l q) 32 q1 (by decide)
   have g2:=xc0 (l:=l) (k:=dkx l q) (n:=32) (by decide);have g3:=xc1 (l:=l) (k:=dkx l q) (n:=32) (by decide);have hsn:i64s (S++[1+dnx l (dkx l q) 32])=i64s S++[.int .i64 (1+dnx l (dkx l q) 32)]:=by simp [i64s]
   refine zst ?_;refine zcm (e1) ?_;refine zcm (e2) ?_;exact zn2 (hJ _ (⟨(i+1,S++[1+dnx l (dkx l q) 32],dkx l (dkx l q)),by omega,by rw [List.length_append,List.length_singleton,hS],xiw hL ⟨by omega,by omega⟩,q2⟩) (by first|omega|(dsimp only;omega)|(simp;omega))) hsn
 ·obtain rfl:i=K:=by omega
  have hz:okSz S:=⟨hL,by omega,by omega⟩;refine zst ?_;refine zrM hb0 mz ?_
  (exact⟨S,q,hz,hq,by simp only [go_sem],rfl,by simp only [go_sem]⟩)
def preI (S:Int) (i:PInstr):Prop:=(0≤i.op∧i.op≤24)∧(0≤i.a∧i.a<8∧((xd7 i.op)[0]! =false→i.a=0))∧(0≤i.b∧i.b<8∧((xd7 i.op)[1]! =false→i.b=0))∧(0≤i.c∧i.c<8∧((xd7 i.op)[2]! =false→i.c=0))∧(0≤i.imm∧i.imm≤65535∧((xd7 i.op)[3]! =false→i.imm=0))∧(i.op=15→i.imm<S)∧(i.op=23→i.imm≤15)
theorem xch {S op a b c m:Int} {u0 u1 u2 u3:Bool} (hu:xd7 op=[u0,u1,u2,u3]) (ho:0≤op∧op≤24) (ha:0≤a∧a<8) (hb:0≤b∧b<8) (hc:0≤c∧c<8) (hm:0≤m∧m≤65535) (za:u0=false→a=0) (zb:u1=false→b=0) (zc:u2=false→c=0) (zm:u3=false→m=0) (h15:op=15→m<S) (h23:op=23→m≤15):preI S ⟨op,a,b,c,m⟩:=by
 unfold preI;dsimp only;rw [hu];exact⟨ho,⟨ha.1,ha.2,za⟩,⟨hb.1,hb.2,zb⟩,⟨hc.1,hc.2,zc⟩,⟨hm.1,hm.2,zm⟩,h15,h23⟩
theorem yjz (l:List Int) (k:Nat) (hk:k≤l.length) (n most:Int) (hn:1≤n∧n≤4) (hm:1≤most∧most≤65535):FncM Tryz.prog 66 84 (xcu l k) [.int .i64 n,.int .i64 most] (fun x obs c=>∃(i:PInstr) (k':Nat),preI n i∧k'≤l.length∧x=xcj i∧obs=[]∧c=xcu l k'):=by
 refine zcf Tryz.prog 66 fun mz=>?_;have h0:=xc0 (l:=l) (k:=k) (n:=25) (by decide);have h1:=xc1 (l:=l) (k:=k) (n:=25) (by decide);have f1:=xav l k 25 hk (by decide);have k1:=xa4 hk;generalize hp:dkx l k=p at k1 f1;clear hp;generalize hop:dnx l k 25=op at h0 h1 f1;clear hop hk;have fu:=yf9 op h0 (by omega);have fj:=xjg op;have d8:∀q,0≤dnx l q 8∧dnx l q 8<8:=fun q=>⟨xc0 (by decide),xc1 (by decide)⟩;have d16:∀q,0≤dnx l q 16∧dnx l q 16<16:=fun q=>⟨xc0 (by decide),xc1 (by decide)⟩;have dn:∀q,0≤dnx l q n∧dnx l q n<n:=fun q=>⟨xc0 (by omega),xc1 (by omega)⟩;have dm:∀q,0≤dnx l q most∧dnx l q most<most:=fun q=>⟨xc0 (by omega),xc1 (by omega)⟩;have dw:=xxm l;have z8:(0:Int)≤0∧(0:Int)<8:=by decide
 have zi:(0:Int)≤0∧(0:Int)≤65535:=by decide
 have n8:=fun q hq=>xav l q 8 hq (by decide);have n16:=fun q hq=>xav l q 16 hq (by decide);have nn:=fun q hq=>xav l q n hq (by omega);have nm:=fun q hq=>xav l q most hq (by omega);have nw:=fun q hq=>xtn l q hq;by_cases e:op=0∨op=24
 ·have hu:xd7 op=[false,false,false,false]:=by unfold xd7;repeat(first|rw [if_pos (by omega)]|rw [if_neg (by omega)])
  have hj:¬xbm op:=by unfold xbm;omega
  rw [decF hj] at fj;rw [hu] at fu;refine zgM mz fun W S b0 hb0=>?_;refine zcm (f1) ?_;refine zcd (fu) ?_;refine zcd (fj) ?_;refine zrM hb0 mz ?_
  (exact⟨⟨_,_,_,_,_⟩,_,xch hu ⟨h0,by omega⟩ z8 z8 z8 zi (fun _=>rfl) (fun _=>rfl) (fun _=>rfl) (fun _=>rfl) (fun h=>absurd h (by omega)) (fun h=>absurd h (by omega)),k1,rfl,rfl,rfl⟩)
 by_cases e:op=1
 ·have hu:xd7 op=[true,false,false,true]:=by unfold xd7;repeat(first|rw [if_pos (by omega)]|rw [if_neg (by omega)])
  have hj:¬xbm op:=by unfold xbm;omega
  rw [decF hj] at fj;rw [hu] at fu;have hw0:=xxm l (dkx l p);refine zgM mz fun W S b0 hb0=>?_;refine zcm (f1) ?_;refine zcd (fu) ?_;refine zcm (n8 p k1) ?_;refine zcd (fj) ?_;refine zcm (nw (dkx l p) (xa4 k1)) ?_;refine zrM hb0 mz ?_
  (exact⟨⟨_,_,_,_,_⟩,_,xch hu ⟨h0,by omega⟩ (d8 _) z8 z8 (dw _) (fun h=>by cases h) (fun _=>rfl) (fun _=>rfl) (fun h=>by cases h) (fun h=>absurd h (by omega)) (fun h=>absurd h (by omega)),xa4 (xa4 (xa4 k1)),rfl,rfl,rfl⟩)
 by_cases e:op=2
 ·have hu:xd7 op=[true,true,false,false]:=by unfold xd7;repeat(first|rw [if_pos (by omega)]|rw [if_neg (by omega)])
  have hj:¬xbm op:=by unfold xbm;omega
  rw [decF hj] at fj;rw [hu] at fu;refine zgM mz fun W S b0 hb0=>?_;refine zcm (f1) ?_;refine zcd (fu) ?_;refine zcm (n8 p k1) ?_;refine zcm (n8 (dkx l p) (xa4 k1)) ?_;refine zcd (fj) ?_;refine zrM hb0 mz ?_
  (exact⟨⟨_,_,_,_,_⟩,_,xch hu ⟨h0,by omega⟩ (d8 _) (d8 _) z8 zi (fun h=>by cases h) (fun h=>by cases h) (fun _=>rfl) (fun _=>rfl) (fun h=>absurd h (by omega)) (fun h=>absurd h (by omega)),(xa4 (xa4 k1)),rfl,rfl,rfl⟩)
 by_cases e:3≤op∧op≤14
 ·have hu:xd7 op=[true,true,true,false]:=by unfold xd7;repeat(first|rw [if_pos (by omega)]|rw [if_neg (by omega)])
  have hj:¬xbm op:=by unfold xbm;omega
  rw [decF hj] at fj;rw [hu] at fu;refine zgM mz fun W S b0 hb0=>?_;refine zcm (f1) ?_;refine zcd (fu) ?_;refine zcm (n8 p k1) ?_;refine zcm (n8 (dkx l p) (xa4 k1)) ?_;refine zcm (n8 (dkx l (dkx l p)) (xa4 (xa4 k1))) ?_;refine zcd (fj) ?_;refine zrM hb0 mz ?_
  (exact⟨⟨_,_,_,_,_⟩,_,xch hu ⟨h0,by omega⟩ (d8 _) (d8 _) (d8 _) zi (fun h=>by cases h) (fun h=>by cases h) (fun h=>by cases h) (fun _=>rfl) (fun h=>absurd h (by omega)) (fun h=>absurd h (by omega)),(xa4 (xa4 (xa4 k1))),rfl,rfl,rfl⟩)
 by_cases e:op=15
 ·have hu:xd7 op=[true,false,false,true]:=by unfold xd7;repeat(first|rw [if_pos (by omega)]|rw [if_neg (by omega)])
  have hj:¬xbm op:=by unfold xbm;omega
  rw [decF hj] at fj;rw [hu] at fu;refine zgM mz fun W S b0 hb0=>?_;refine zcm (f1) ?_;refine zcd (fu) ?_;refine zcm (n8 p k1) ?_;refine zcd (fj) ?_;refine zcm (nn (dkx l p) (xa4 k1)) ?_;refine zrM hb0 mz ?_
  (exact⟨⟨_,_,_,_,_⟩,_,xch hu ⟨h0,by omega⟩ (d8 _) z8 z8 ⟨(dn _).1,by have:=(dn (dkx l p)).2;omega⟩ (fun h=>by cases h) (fun _=>rfl) (fun _=>rfl) (fun h=>by cases h) (fun _=>(dn _).2) (fun h=>absurd h (by omega)),xa4 (xa4 k1),rfl,rfl,rfl⟩)
 by_cases e:op=16∨op=17
 ·have hu:xd7 op=[true,true,false,true]:=by unfold xd7;repeat(first|rw [if_pos (by omega)]|rw [if_neg (by omega)])
  have hj:¬xbm op:=by unfold xbm;omega
  rw [decF hj] at fj;rw [hu] at fu;have hw0:=xxm l (dkx l (dkx l p));refine zgM mz fun W S b0 hb0=>?_;refine zcm (f1) ?_;refine zcd (fu) ?_;refine zcm (n8 p k1) ?_;refine zcm (n8 (dkx l p) (xa4 k1)) ?_;refine zcd (fj) ?_;refine zcm (nw (dkx l (dkx l p)) (xa4 (xa4 k1))) ?_;refine zrM hb0 mz ?_
  (exact⟨⟨_,_,_,_,_⟩,_,xch hu ⟨h0,by omega⟩ (d8 _) (d8 _) z8 (dw _) (fun h=>by cases h) (fun h=>by cases h) (fun _=>rfl) (fun h=>by cases h) (fun h=>absurd h (by omega)) (fun h=>absurd h (by omega)),xa4 (xa4 (xa4 (xa4 k1))),rfl,rfl,rfl⟩)
 by_cases e:op=18
 ·have hu:xd7 op=[false,false,false,true]:=by unfold xd7;repeat(first|rw [if_pos (by omega)]|rw [if_neg (by omega)])
  have hj:xbm op:=by unfold xbm;omega
  rw [decT hj] at fj;rw [hu] at fu;refine zgM mz fun W S b0 hb0=>?_;refine zcm (f1) ?_;refine zcd (fu) ?_;refine zcd (fj) ?_;refine zcm (nm p k1) ?_;refine zrM hb0 mz ?_
  (exact⟨⟨_,_,_,_,_⟩,_,xch hu ⟨h0,by omega⟩ z8 z8 z8 ⟨(dm _).1,by have:=(dm p).2;omega⟩ (fun _=>rfl) (fun _=>rfl) (fun _=>rfl) (fun h=>by cases h) (fun h=>absurd h (by omega)) (fun h=>absurd h (by omega)),xa4 k1,rfl,rfl,rfl⟩)
 by_cases e:op=19∨op=20∨op=21
 ·have hu:xd7 op=[true,false,false,true]:=by unfold xd7;repeat(first|rw [if_pos (by omega)]|rw [if_neg (by omega)])
  have hj:xbm op:=by unfold xbm;omega
  rw [decT hj] at fj;rw [hu] at fu;refine zgM mz fun W S b0 hb0=>?_;refine zcm (f1) ?_;refine zcd (fu) ?_;refine zcm (n8 p k1) ?_;refine zcd (fj) ?_;refine zcm (nm (dkx l p) (xa4 k1)) ?_;refine zrM hb0 mz ?_
  (exact⟨⟨_,_,_,_,_⟩,_,xch hu ⟨h0,by omega⟩ (d8 _) z8 z8 ⟨(dm _).1,by have:=(dm (dkx l p)).2;omega⟩ (fun h=>by cases h) (fun _=>rfl) (fun _=>rfl) (fun h=>by cases h) (fun h=>absurd h (by omega)) (fun h=>absurd h (by omega)),xa4 (xa4 k1),rfl,rfl,rfl⟩)
 by_cases e:op=22
 ·have hu:xd7 op=[true,false,false,false]:=by unfold xd7;repeat(first|rw [if_pos (by omega)]|rw [if_neg (by omega)])
  have hj:¬xbm op:=by unfold xbm;omega
  rw [decF hj] at fj;rw [hu] at fu;refine zgM mz fun W S b0 hb0=>?_;refine zcm (f1) ?_;refine zcd (fu) ?_;refine zcm (n8 p k1) ?_;refine zcd (fj) ?_;refine zrM hb0 mz ?_
  (exact⟨⟨_,_,_,_,_⟩,_,xch hu ⟨h0,by omega⟩ (d8 _) z8 z8 zi (fun h=>by cases h) (fun _=>rfl) (fun _=>rfl) (fun _=>rfl) (fun h=>absurd h (by omega)) (fun h=>absurd h (by omega)),(xa4 k1),rfl,rfl,rfl⟩)
 by_cases e:op=23
 ·have hu:xd7 op=[false,false,false,true]:=by unfold xd7;repeat(first|rw [if_pos (by omega)]|rw [if_neg (by omega)])
  have hj:¬xbm op:=by unfold xbm;omega
  rw [decF hj] at fj;rw [hu] at fu;refine zgM mz fun W S b0 hb0=>?_;refine zcm (f1) ?_;refine zcd (fu) ?_;refine zcd (fj) ?_;refine zcm (n16 p k1) ?_;refine zrM hb0 mz ?_
  (exact⟨⟨_,_,_,_,_⟩,_,xch hu ⟨h0,by omega⟩ z8 z8 z8 ⟨(d16 _).1,by have:=(d16 p).2;omega⟩ (fun _=>rfl) (fun _=>rfl) (fun _=>rfl) (fun h=>by cases h) (fun h=>absurd h (by omega)) (fun _=>by have:=(d16 p).2;omega),xa4 k1,rfl,rfl,rfl⟩)
 omega
end Go.Proofs.YtbgpfigkcpmnfaaGreat
