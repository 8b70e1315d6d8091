import Derived.Test.YthmjocibdepahaaGreatA35
set_option linter.unusedVariables false
namespace Rdn.Dp
open Go Go.RowKit Rdn
section
variable {P:Program} {cx:Cx} {E:Env} {a:Act} {w:World} {N:Nat} {Q:Exit→Act→World→Prop} {k:List It} {l:List RO} {n:Nat} {t:List (Nat×V)} {ob:List Ob}
theorem Rel.cutRow (R:Rel cx E ⟨n,t,ob⟩ a w) {i r g e s j:Nat} {q:List V} (hi:aV t i=.osl r g s 0 j) (hr:ob[r]?=some ⟨.row e,true,g,.arr s q⟩) (hj:0<j):∃E',Rel cx E' ⟨n,(i,.own r (g+1))::t,ob.set r ⟨.row e,true,g+1,.arr s (q.take j)⟩⟩ a w:=by
 have hv:RdT E w (aV t i) (a.tmps.getD i undef):=R.tm i;rw [hi] at hv;obtain⟨e0,u,xs,he0,k1,hU,hs0,hql,hown,hrd,hpu,hB⟩:=R.rowAt (.inl ⟨e,rfl⟩) hr;obtain⟨A,n',c,A',f1,f2,f3,f4,f5,f6⟩:=xs1 hv k1;rw [show e0=e from by rcases he0 with h|⟨_,h⟩<;>cases h<;>rfl] at hown;generalize hV:a.tmps.getD i undef=v at f2;have hrl:=(List.getElem?_eq_some_iff.1 k1).1;have hbk:aP v=aP u:=by rw [f1,f2,f6 ω];cases A<;>simp [aP,Addr.add]
 have hq:j≤q.length:=by
  rcases hown.2 with ⟨g1,g2⟩|⟨gb,cap,cur,g1,_⟩
  ·rw [g1] at f1;injection f1 with _ f1 _;omega
  ·rw [g1] at f1;injection f1 with _ f1 _;omega
 have L0:Leads E w {E with ref:=E.ref.set r (g+1,v)} w:=by
  refine⟨fun b hb'=>⟨hb',rfl⟩,fun _ h=>h,by simp,fun r' g' v' hr' h=>?_⟩;by_cases e:r=r'
  ·subst e
   rw [List.getElem?_set_self hrl] at h;injection h with h
   injection h with h1 h2
   subst h1 h2;exact⟨g,u,k1,ω,fun e=>by omega⟩
  ·rw [List.getElem?_set_ne e] at h
   exact⟨g',v',h,Nat.le_refl _,fun _=>rfl⟩
 obtain⟨c1,c2⟩:=hrd.cutAt hU j hq;have hown':w.ownsRow cx.W.heap.size e s v (q.take j).length (xs.take (j*s)):=by
  have hlen:(q.take j).length=j:=by rw [List.length_take];omega
  rw [hlen];refine⟨by rw [List.length_take,hown.1];exact Nat.min_eq_left (Nat.mul_le_mul_right s hq),.inr ?_⟩;rcases hown.2 with ⟨g1,g2⟩|⟨gb,cap,cur,g1,g2,g3,g4,g5,g6,g7⟩
  ·omega
  ·rw [g1] at f1
   injection f1 with h1 h2 h3
   subst h1 h2 h3;refine⟨gb,cap,cur,?_,g2,g3,ω,g5,g6,?_⟩
   ·rw [f2,f6 ω];simp [Addr.add_lit]
   ·rw [←g7,List.take_take,Nat.min_eq_left (Nat.mul_le_mul_right s hq)]
 have ho:OkO cx {E with ref:=E.ref.set r (g+1,v)} w ⟨.row e,true,g+1,.arr s (q.take j)⟩ v:=by
  unfold OkO;refine⟨s,q.take j,xs.take (j*s),rfl,?_,fun x hx=>hU x (List.mem_of_mem_take hx),hs0,by rw [List.length_take];omega,hown',c1.mono L0,fun b hb=>?_⟩
  ·rw [pures_iff]
   exact fun x hx=>pures_iff.1 (hpu ⟨e,rfl⟩) x (List.mem_of_mem_take hx)
  ·have:=hB b (by rw [←hbk];exact hb)
   simpa using this
 obtain⟨L,R'⟩:=R.touch (o':=⟨.row e,true,g+1,.arr s (q.take j)⟩) (u':=v) hr rfl k1 (Keep.refl _ _) rfl (.inr rfl) (fun b hb=> .inl (by rw [←hbk];exact hb)) ho;refine⟨_,R'.df,R'.n,fun i'=>?_,R'.len,R'.ob,R'.sep,R'.lt,R'.fr,R'.old,R'.keep⟩;show RdT _ w (aV ((i,.own r (g+1))::t) i') _;simp only [aV];by_cases e:i=i'
 ·rw [if_pos e]
  subst e;rw [hV];simp only [RdT,RdV];refine⟨v,rfl,by rw [f2];rfl,by simpa using hrl,fun gc u' h=>?_⟩;rw [List.getElem?_set_self hrl] at h;injection h with h
  injection h with e1 e2
  subst e1 e2;exact⟨Nat.le_refl _,fun _=>rfl⟩
 ·rw [if_neg e]
  exact R'.tm i'
theorem xwa (i r:Nat) {g e s j:Nat} {q:List V} (hi:aV t i=.osl r g s 0 j) (hr:ob[r]?=some ⟨.row e,true,g,.arr s q⟩) (hj:0<j) (h:EvR P cx N Q k l ⟨n,(i,.own r (g+1))::t,ob.set r ⟨.row e,true,g+1,.arr s (q.take j)⟩⟩):EvR P cx N Q k l ⟨n,t,ob⟩:=by
 refine⟨fun hn E a w R=>?_⟩;obtain⟨E',R'⟩:=R.cutRow hi hr hj;exact h.h hn E' a w R'
end
end Rdn.Dp
