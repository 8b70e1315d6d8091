import Derived.Test.YthmjocibdepahaaGreatA3
import Derived.LoopN
import Derived.Test.YthmjocibdepahaaGreatA1
set_option linter.unusedSimpArgs false
set_option linter.unusedVariables false
namespace Rdn.Dp
open Go Go.RowKit Rdn
section
variable {cx:Cx} {E:Env} {σ:AS} {a:Act} {w:World}
def iK (W w:World) (E:Env) (ids:List Nat):Env:=
 ⟨fun b=>E.B b∨(W.heap.size≤b∧b<w.heap.size∧∀r∈ids,∀g u,E.ref[r]?=some (g,u)→aP u≠some b),fun b=>W.heap.size≤b,ids.map fun r=>(0,((E.ref[r]?).map (·.2)).getD undef)⟩
def vP (σ:AS) (ids:List Nat):Prop:=ids.Nodup∧∀r∈ids,∃e g s l,σ.ob[r]?=some ⟨.row e,true,g,.arr s l⟩
theorem xb6 (R:Rel cx E σ a w) {ids:List Nat}:∀b,E.F b→(iK cx.W w E ids).F b:=fun b hb=>(R.fr b).1 hb
theorem yqy (R:Rel cx E σ a w) {ids:List Nat} (ho:vP σ ids) {r g:Nat} {v:Value} (h:RdT E w (.own r g) v) (hg:(bT σ r g).2.2):RdV (iK cx.W w E ids) w (V.res σ ids (.own r g)) [v]:=by
 obtain⟨e',lv,s',l,xs,q1,q2,q3,q4,q5,q6,q7,q8,q9,q10,q11⟩:=xeb R h hg;have hv1:v.oneCell'=true:=by simp only [RdT,RdV] at h;obtain⟨v',e,h,_⟩:=h;simp at e;subst e;exact h
 simp only [V.res];cases hi:ids.idxOf? r with
 |some i=>
  simp only [RdV];have hir:=List.idxOf?_eq_some_iff.1 hi;refine⟨v,rfl,hv1,?_,fun gc u hu=>?_⟩
  ·obtain⟨h1,h2⟩:=hir
   simp [iK];exact h1
  ·obtain⟨h1,h2,_⟩:=hir
   have:(iK cx.W w E ids).ref[i]?=some (0,v):=by simp [iK,h1,h2,q4]
   rw [this] at hu;injection hu with hu
   injection hu with hu1 hu2
   subst hu1;exact⟨Nat.le_refl _,fun _=>hu2⟩
 |none=>
  simp only [q2,q3,RdV];refine⟨q5,q6,?_⟩;rcases q9.2 with ⟨rfl,hn⟩|⟨b,cap,cur,rfl,m1,m2,m3,m4,m5,m6⟩
  ·exact⟨none,0,by rw [hn],ω,ω,fun h0=>by omega⟩
  ·refine⟨_,cap,rfl,m3,q8,fun h0=>⟨b,0,xs,rfl,.inr ⟨m1,xcr m2,fun r' hr' g' u' hu' hbu'=>?_⟩,fun _=>m1,xh9 (E0:=iK cx.W w E ids) (fun b hb=> .inl hb) (xb6 R) q5 q10,fun j v hv=>?_⟩⟩
   ·obtain⟨e2,g2,s2,l2,k1⟩:=ho.2 r' hr'
    have hne:r≠r':=by
     rintro rfl
     exact List.idxOf?_eq_none_iff.1 hi hr'
    obtain⟨u2,k2,k3⟩:=R.ob r' _ k1;rw [hu'] at k2;injection k2 with k2
    injection k2 with _ k2
    subst k2;cases lv with
    |true=>exact R.sep r r' _ _ g g' _ u' b hne q1 k1 rfl rfl q4 hu' rfl hbu'
    |false=>
     have:=q11 b rfl;simp only [Bool.false_eq_true,if_false] at this;exact k3.live_B rfl hbu' this
   ·rw [←m6,List.getElem?_take] at hv
    split at hv
    ·simpa [World.cell?,m2] using hv
    ·cases hv
mutual
theorem xaa (R:Rel cx E σ a w) {ids:List Nat} (ho:vP σ ids):∀{x:V} {cs:List Value},V.resOk σ x→RdV E w x cs→RdV (iK cx.W w E ids) w (x.res σ ids) cs
 | .int k n,cs,_,h=>by simp only [RdV,V.res] at h⊢;exact h
 | .bool b,cs,_,h=>by simp only [RdV,V.res] at h⊢;exact h
 | .str b,cs,_,h=>by simp only [RdV,V.res] at h⊢;exact h
 | .nilS,cs,_,h=>by simp only [RdV,V.res] at h⊢;exact h
 | .agg l,cs,hp,h=>by simp only [V.resOk] at hp;simp only [RdV,V.res] at h⊢;exact ybp R ho hp h
 | .arr s l,cs,hp,h=>by simp only [V.res];exact xb9 (E0:=iK cx.W w E ids) (fun b hb=> .inl hb) (xb6 R) (by simpa [V.resOk,V.pure] using hp) h
 | .sl t s l,cs,hp,h=>by simp only [V.res];exact xb9 (E0:=iK cx.W w E ids) (fun b hb=> .inl hb) (xb6 R) rfl h
 | .own r g,cs,hp,h=>by
  have h':=h;simp only [RdV] at h';obtain⟨v,rfl,_⟩:=h';simp only [V.resOk] at hp;exact yqy R ho (by simpa only [RdT] using h) hp
 | .ptr r g p o,cs,hp,h=>by simp [V.resOk] at hp
 | .osl r g s a b,cs,hp,h=>by simp [V.resOk] at hp
 | .rp x,cs,hp,h=>by
  simp only [RdV,V.res] at h⊢;obtain⟨h1,b,o,xs,h2,h3,h4,h5⟩:=h;exact⟨h1,b,o,xs,h2,.inl h3,xb9 (E0:=iK cx.W w E ids) (fun b hb=> .inl hb) (xb6 R) h1 h4,h5⟩
 | .fn f,cs,hp,h=>by simp only [RdV,V.res] at h⊢;exact h
 | .lit f,cs,hp,h=>by simp only [RdV,V.res] at h⊢;exact h
 | .tup l,cs,hp,h=>by simp only [RdV] at h
 | .clo f l,cs,hp,h=>by simp only [RdV] at h
 | .junk,cs,hp,h=>by simp only [RdV] at h
theorem ybp (R:Rel cx E σ a w) {ids:List Nat} (ho:vP σ ids):∀{l:List V} {cs:List Value},V.ressOk σ l→RdL E w l cs→RdL (iK cx.W w E ids) w (V.ress σ ids l) cs
 |[],xs,_,h=>by simp only [RdL,V.ress] at h⊢;exact h
 |a::l,xs,hp,h=>by
  simp only [V.ressOk] at hp;simp only [RdL,V.ress] at h⊢;obtain⟨c,ys,h1,h2,h3⟩:=h;exact⟨c,ys,h1,xaa R ho hp.1 h2,ybp R ho hp.2 h3⟩
end
mutual
theorem ybm (R:Rel cx E σ a w) {ids:List Nat} (ho:vP σ ids):∀{x:V} {v:Value},V.resOk σ x→RdT E w x v→RdT (iK cx.W w E ids) w (x.res σ ids) v
 | .int k n,v,hp,h=>by have:=xaa R ho hp (by simpa only [RdT] using h);simpa only [RdT,V.res] using this
 | .bool b,v,hp,h=>by have:=xaa R ho hp (by simpa only [RdT] using h);simpa only [RdT,V.res] using this
 | .str b,v,hp,h=>by have:=xaa R ho hp (by simpa only [RdT] using h);simpa only [RdT,V.res] using this
 | .nilS,v,hp,h=>by have:=xaa R ho hp (by simpa only [RdT] using h);simpa only [RdT,V.res] using this
 | .agg l,v,hp,h=>by
  simp only [RdT] at h;obtain⟨cs,rfl,h⟩:=h;have:=xaa R ho hp h;simp only [V.res] at this⊢;simp only [RdT];exact⟨cs,rfl,this⟩
 | .arr s l,v,hp,h=>by
  simp only [RdT] at h;obtain⟨cs,rfl,h⟩:=h;have:=xaa R ho hp h;simp only [V.res] at this⊢;simp only [RdT];exact⟨cs,rfl,this⟩
 | .sl t s l,v,hp,h=>by have:=xaa R ho hp (by simpa only [RdT] using h);simpa only [RdT,V.res] using this
 | .own r g,v,hp,h=>by
  have:=xaa R ho hp (by simpa only [RdT] using h);simp only [V.res] at this⊢;cases hi:ids.idxOf? r with
  |some i=>rw [hi] at this;simpa only [RdT] using this
  |none=>rw [hi] at this;simpa only [RdT] using this
 | .ptr r g p o,v,hp,h=>by simp [V.resOk] at hp
 | .osl r g s a b,v,hp,h=>by simp [V.resOk] at hp
 | .rp x,v,hp,h=>by have:=xaa R ho hp (by simpa only [RdT] using h);simpa only [RdT,V.res] using this
 | .fn f,v,hp,h=>by have:=xaa R ho hp (by simpa only [RdT] using h);simpa only [RdT,V.res] using this
 | .lit f,v,hp,h=>by have:=xaa R ho hp (by simpa only [RdT] using h);simpa only [RdT,V.res] using this
 | .tup l,v,hp,h=>by
  simp only [V.resOk] at hp;simp only [RdT,V.res] at h⊢;obtain⟨vs,h1,h2⟩:=h;exact⟨vs,h1,xrq R ho hp h2⟩
 | .clo f l,v,hp,h=>by
  simp only [V.resOk] at hp;simp only [RdT,V.res] at h⊢;obtain⟨vs,h1,h2⟩:=h;exact⟨vs,h1.mono fun b hb=>⟨.inl hb,rfl⟩,xrq R ho hp.1 h2⟩
 | .junk,v,hp,h=>by simp [V.resOk] at hp
theorem xrq (R:Rel cx E σ a w) {ids:List Nat} (ho:vP σ ids):∀{l:List V} {vs:List Value},V.ressOk σ l→RdTs E w l vs→RdTs (iK cx.W w E ids) w (V.ress σ ids l) vs
 |[],xs,_,h=>by simp only [RdTs,V.ress] at h⊢;exact h
 |a::l,xs,hp,h=>by
  simp only [V.ressOk] at hp;simp only [RdTs,V.ress] at h⊢;obtain⟨c,ys,h1,h2,h3⟩:=h;exact⟨c,ys,h1,ybm R ho hp.1 h2,xrq R ho hp.2 h3⟩
end
def yX (σ:AS) (ids:List Nat):List Ob:=ids.map fun r=>match σ.ob[r]? with|some o=>{o with g:=0}|none=>⟨.row 0,true,0,.junk⟩
theorem Rel.outG (R:Rel cx E σ a w) {ids:List Nat} (ho:vP σ ids) {x:V} {v:Value} (hx:RdT E w x v) (hp:V.resOk σ x) {lent:Nat→Prop} (hk:Keep lent cx.W w):(∀o∈yX σ ids,o.live=true∧o.g=0∧∃e,o.k=.row e)∧Rel ⟨cx.W,lent,cx.S⟩ (iK cx.W w E ids) ⟨1,[(0,x.res σ ids)],yX σ ids⟩ ⟨#[v],[]⟩ w:=by
 have hob:∀(r:Nat) (o:Ob),(yX σ ids)[r]?=some o→∃q,ids[r]?=some q∧∃e g s l u,σ.ob[q]?=some ⟨.row e,true,g,.arr s l⟩∧o=⟨.row e,true,0,.arr s l⟩∧E.ref[q]?=some (g,u)∧(iK cx.W w E ids).ref[r]?=some (0,u)∧OkO cx E w ⟨.row e,true,g,.arr s l⟩ u:=by
  intro r o hr;simp only [yX,List.getElem?_map,Option.map_eq_some_iff] at hr;obtain⟨q,hq,hr⟩:=hr;obtain⟨e,g,s,l,h1⟩:=ho.2 q (List.mem_of_getElem? hq);rw [h1] at hr;obtain⟨u,k1,k2⟩:=R.ob q _ h1;exact⟨q,hq,e,g,s,l,u,h1,hr.symm,k1,by simp [iK,hq,k1],k2⟩
 refine⟨fun o hor=>?_,rfl,rfl,fun i=>?_,by simp [iK,yX],fun r o hr=>?_,fun r r' o o' g g' u u' b h1 h2 h3 h4 h5 h6 h7 h8 h9=>?_,fun b hb=>?_,fun b=>Iff.rfl,fun b hb hlt=>?_,hk⟩
 ·obtain⟨r,hr⟩:=List.getElem?_of_mem hor
  obtain⟨q,_,e,g,s,l,u,_,rfl,_⟩:=hob r o hr;exact⟨rfl,rfl,e,rfl⟩
 ·cases i with
  |zero=>
   simp only [aV,if_true];have:=ybm R ho hp hx;simpa using this
  |succ i=>
   have:aV [(0,x.res σ ids)] (i+1)=.junk:=by simp [aV]
   rw [this];simp only [RdT]
 ·obtain⟨q,hq,e,g,s,l,u,k1,rfl,k4,k5,k6⟩:=hob r o hr
  refine⟨u,k5,?_⟩;have hlv:=fun b hb=>k6.live_B (b:=b) rfl hb;unfold OkO at k6⊢;simp only at k6⊢;obtain⟨s',l',xs,m1,m2,m3,m4,m5,m6,m7,m8⟩:=k6;injection m1 with m1 m1'
  subst m1 m1';refine⟨_,_,xs,rfl,m2,m3,m4,m5,m6,xh9 (E0:=iK cx.W w E ids) (fun b hb=> .inl hb) (xb6 R) m2 m7,fun b hb=>?_⟩;simp only [if_true];intro hB;rcases hB with hB|hB
  ·exact hlv b hb hB
  ·exact hB.2.2 q (List.mem_of_getElem? hq) g u k4 hb
 ·obtain⟨q,hq,e,g1,s,l,u1,k1,rfl,k4,k5,k6⟩:=hob r o h2
  obtain⟨q',hq',e',g2,s',l',u2,m1,rfl,m4,m5,m6⟩:=hob r' o' h3;have h6:(iK cx.W w E ids).ref[r]?=some (g,u):=h6;have h7:(iK cx.W w E ids).ref[r']?=some (g',u'):=h7;rw [k5] at h6;rw [m5] at h7;injection h6 with h6
  injection h6 with _ h6
  injection h7 with h7
  injection h7 with _ h7
  subst h6 h7;refine R.sep q q' _ _ g1 g2 u1 u2 b (fun e=>?_) k1 m1 rfl rfl k4 m4 h8 h9;subst e;exact h1 ((List.getElem?_inj (List.getElem?_eq_some_iff.1 hq).1 ho.1).1 (hq.trans hq'.symm))
 ·rcases hb with hb|hb
  ·exact R.lt b hb
  ·exact hb.2.1
 ·rcases hb with hb|hb
  ·exact R.old b hb hlt
  ·have:=hb.1
   have hlt:b<cx.W.heap.size:=hlt;omega
theorem xrn (R:Rel cx E σ a w) {ids:List Nat}:∀b,(iK cx.W w E ids).B b→cx.S b∨cx.W.heap.size≤b:=by
 intro b hb;rcases hb with hb|hb
 ·by_cases h:b<cx.W.heap.size
  ·exact .inl (R.old b hb h)
  ·exact .inr ω
 ·exact .inr hb.1
theorem Rel.out {W:World} {S:Nat→Prop} (R:Rel ⟨W,fun _=>False,S⟩ E σ a w) {ids:List Nat} (ho:vP σ ids) {x:V} {v:Value} (hx:RdT E w x v) (hp:V.resOk σ x):ResOk W w S (x.res σ ids) (yX σ ids) v:=
 ⟨_,xrn R,fun o h=>⟨((R.outG ho hx hp R.keep).1 o h).1,((R.outG ho hx hp R.keep).1 o h).2.1⟩,(R.outG ho hx hp R.keep).2⟩
theorem Rel.outP {W:World} {S:Nat→Prop} (R:Rel ⟨W,fun _=>False,S⟩ E σ a w) {r g:Nat} {T:TypeId} {c:V} (h0:σ.ob[r]?=some ⟨.box false T,true,g,c⟩) (hc:c.pure=true) {v:Value} (hx:RdT E w (.ptr r g [] 0) v):ResOk W w S (.ptr 0 0 [] 0) [⟨.box false T,true,0,c⟩] v:=by
 obtain⟨u0,p1,p2⟩:=R.ob r _ h0;have p3:=p2;unfold OkO at p3;obtain⟨b,cs,rfl,m2,m3,m4,m5⟩:=p3;simp only [Bool.false_eq_true,if_false,if_true] at m4 m5;have hv:v=.pointer (some ⟨b,0,none⟩):=by
  simp only [RdT,RdV] at hx;obtain⟨v',e,_,_,h⟩:=hx;simp at e;subst e;obtain⟨_,h2⟩:=h g _ p1;obtain⟨b',e1,e2⟩:=h2 rfl;simp only [aP,Option.some.injEq] at e1;subst e1;exact e2
 subst hv;have hB:∀b',(E.B b')→S b'∨W.heap.size≤b':=fun b' hb=>by
  by_cases h:b'<W.heap.size
  ·exact .inl (R.old b' hb h)
  ·exact .inr ω
 refine⟨⟨E.B,fun b=>W.heap.size≤b,[(0,.pointer (some ⟨b,0,none⟩))]⟩,hB,fun o ho=>?_,rfl,rfl,fun i=>?_,rfl,fun r o hr=>?_,fun r r' o o' g g' u u' b hne hr hr'=>?_,R.lt,fun b=>Iff.rfl,R.old,R.keep⟩
 ·simp at ho;subst ho;exact⟨rfl,rfl⟩
 ·cases i with
  |zero=>
   simp only [aV,if_true,RdT,RdV];refine⟨_,rfl,rfl,by simp,fun gc u h=>?_⟩;simp at h;obtain⟨h1,h2⟩:=h;subst h1 h2;exact⟨Nat.le_refl _,fun _=>⟨b,rfl,rfl⟩⟩
  |succ i=>
   have:aV [(0,V.ptr 0 0 [] 0)] (i+1)=.junk:=by simp [aV]
   rw [this];simp only [RdT]
 ·cases r with
  |zero=>
   simp only [List.getElem?_cons_zero,Option.some.injEq] at hr;subst hr;refine⟨_,rfl,?_⟩;unfold OkO;exact⟨b,cs,rfl,m2,xb9 (E1:=E) (E0:=⟨E.B,fun b=>W.heap.size≤b,[(0,.pointer (some ⟨b,0,none⟩))]⟩) (fun _ h=>h) (fun b hb=>(R.fr b).1 hb) hc m3,by simpa using m4,by simpa using m5⟩
  |succ r=>simp at hr
 ·have h1:=(List.getElem?_eq_some_iff.1 hr).1
  have h2:=(List.getElem?_eq_some_iff.1 hr').1;simp at h1 h2;omega
end
end Rdn.Dp
namespace Rdn.Dp
open Go Go.RowKit Rdn
mutual
def V.ids:V→List Nat
 | .own r _=>[r]
 | .ptr r _ _ _=>[r]
 | .osl r _ _ _ _=>[r]
 | .agg l=>V.idss l
 | .tup l=>V.idss l
 | .clo f l=>V.idss l
 | .arr _ _=>[]
 | .sl _ _ _=>[]
 | .int _ _=>[]
 | .bool _=>[]
 | .str _=>[]
 | .nilS=>[]
 | .rp _=>[]
 | .fn _=>[]
 | .lit _=>[]
 | .junk=>[]
def V.idss:List V→List Nat
 |[]=>[]
 |x::l=>x.ids++V.idss l
end
def AS.frz (σ:AS):List Nat→AS
 |[]=>σ
 |r::l=>(σ.upd r Ob.freeze).frz l
def AS.calm (σ:AS) (i:Nat):AS:=match V.ids (aV σ.t i) with
 |[]=>σ
 |r::l=>⟨σ.n,(i,(aV σ.t i).res σ [])::σ.t,(σ.frz (r::l)).ob⟩
def xka (σ:AS) (i:Nat):Prop:=match V.ids (aV σ.t i) with
 |[]=>True
 |_::_=>V.resOk σ (aV σ.t i)
def xaq:AS→List X→AS×Prop
 |σ,[]=>(σ,True)
 |σ,.c _::l=>xaq σ l
 |σ,.t i::l=>((xaq (σ.calm i) l).1,xka σ i∧(xaq (σ.calm i) l).2)
def xof (σ:AS) (y:X):V→AS×Prop
 | .ptr r _ _ _=>match σ.ob[r]? with
  |some ⟨.row _,_,_,_⟩=>xaq σ [y]
  |_=>(σ,True)
 |_=>(σ,True)
def qN (σ:AS):MOp→AS×Prop
 | .buildS _ _ _ _ ps=>xaq σ (ps.map (·.2))
 | .store _ x y=>xof σ y (x.ev σ)
 | .box _ _=>(σ,True)
 | .alloc _ _=>(σ,True)
 | .build _ _ _=>(σ,True)
 | .sl _ _ _ _ _=>(σ,True)
 | .slA _ _ _ _ _ _=>(σ,True)
 | .mkS _ _ _ _ _ _=>(σ,True)
 | .app _ _ _ _ _=>(σ,True)
 | .bytes _=>(σ,True)
 | .copy _ _ _ _=>(σ,True)
 | .appz _ _ _ _ _ _=>(σ,True)
 | .mkM _=>(σ,True)
 | .ins _ _ _ _=>(σ,True)
 | .lk _ _ _=>(σ,True)
section
variable {cx:Cx} {E:Env} {σ:AS} {a:Act} {w:World}
theorem yls (l:List Nat):∀σ:AS,(σ.frz l).t=σ.t∧(σ.frz l).n=σ.n:=by
 induction l with
 |nil=>intro σ;exact⟨rfl,rfl⟩
 |cons r l ih=>intro σ;exact ih _
theorem xnm {σ:AS} {r r':Nat}:(σ.upd r Ob.freeze).ob[r']?=if r=r' then(σ.ob[r']?).map Ob.freeze else σ.ob[r']?:=by
 unfold AS.upd;cases h:σ.ob[r]? with
 |none=>
  simp only [];split
  ·rename_i e;subst e;rw [h];rfl
  ·rfl
 |some o=>
  have rl:r<σ.ob.length:=(List.getElem?_eq_some_iff.1 h).1;simp only [];split
  ·rename_i e;subst e;rw [List.getElem?_set_self rl,h];rfl
  ·rename_i e;rw [List.getElem?_set_ne e]
theorem yex {σ:AS} {r q g:Nat}:bT (σ.upd r Ob.freeze) q g=bT σ q g:=by
 unfold bT;rw [xnm];by_cases e:r=q
 ·rw [if_pos e]
  cases h:σ.ob[q]? with
  |none=>rfl
  |some o=>
   obtain⟨k,lv,g',v⟩:=o;cases k<;>cases v<;>rfl
 ·rw [if_neg e]
mutual
theorem yev {r:Nat}:∀x:V,x.res (σ.upd r Ob.freeze) []=x.res σ []
 | .own q g=>by simp only [V.res,List.idxOf?_nil,yex]
 | .agg l=>by simp only [V.res,xno l]
 | .tup l=>by simp only [V.res,xno l]
 | .clo f l=>by simp only [V.res,xno l]
 | .int _ _=>rfl
 | .bool _=>rfl
 | .str _=>rfl
 | .nilS=>rfl
 | .arr _ _=>rfl
 | .sl _ _ _=>rfl
 | .ptr _ _ _ _=>rfl
 | .osl _ _ _ _ _=>rfl
 | .rp _=>rfl
 | .fn _=>rfl
 | .lit _=>rfl
 | .junk=>rfl
theorem xno {r:Nat}:∀l:List V,V.ress (σ.upd r Ob.freeze) [] l=V.ress σ [] l
 |[]=>rfl
 |x::l=>by simp only [V.ress,yev x,xno l]
end
mutual
theorem yew {r:Nat}:∀x:V,V.resOk (σ.upd r Ob.freeze) x=V.resOk σ x
 | .own q g=>by simp only [V.resOk,yex]
 | .agg l=>by simp only [V.resOk,xnp l]
 | .tup l=>by simp only [V.resOk,xnp l]
 | .clo f l=>by simp only [V.resOk,xnp l]
 | .int _ _=>rfl
 | .bool _=>rfl
 | .str _=>rfl
 | .nilS=>rfl
 | .arr _ _=>rfl
 | .sl _ _ _=>rfl
 | .ptr _ _ _ _=>rfl
 | .osl _ _ _ _ _=>rfl
 | .rp _=>rfl
 | .fn _=>rfl
 | .lit _=>rfl
 | .junk=>rfl
theorem xnp {r:Nat}:∀l:List V,V.ressOk (σ.upd r Ob.freeze) l=V.ressOk σ l
 |[]=>rfl
 |x::l=>by simp only [V.ressOk,yew x,xnp l]
end
theorem xws (x:V):∀(l:List Nat) (σ:AS),x.res (σ.frz l) []=x.res σ []∧V.resOk (σ.frz l) x=V.resOk σ x
 |[],σ=>⟨rfl,rfl⟩
 |r::l,σ=>by
  obtain⟨h1,h2⟩:=xws x l (σ.upd r Ob.freeze);exact⟨h1.trans (yev x),h2.trans (yew x)⟩
theorem Rel.frzs:∀(l:List Nat) {σ:AS} {E:Env},Rel cx E σ a w→(∀r∈l,∃e lv g v,σ.ob[r]?=some ⟨.row e,lv,g,v⟩)→
  ∃E',Rel cx E' (σ.frz l) a w∧(∀b,E.B b→E'.B b)∧(∀r∈l,∀o,(σ.frz l).ob[r]?=some o→o.live=false)
 |[],σ,E,R,_=>⟨E,R,fun _ h=>h,fun r hr=>by cases hr⟩
 |r::l,σ,E,R,h=>by
  obtain⟨e,lv,g,v,hr⟩:=h r ξ;obtain⟨u,k1,k2⟩:=R.ob r _ hr;obtain⟨L,R1⟩:=R.freeze (r:=r) hr k1 (fun b hb=>⟨by
   unfold OkO at k2;obtain⟨s,l',xs,q1,q2,q3,q4,q5,q6,q7,q8⟩:=k2;rcases q6.2 with ⟨rfl,_⟩|⟨g',cap,cur,rfl,m1,m2,m3⟩
   ·simp [aP] at hb
   ·simp only [aP,Option.some.injEq] at hb
    subst hb;exact m1,trivial⟩)
  obtain⟨E',R2,hB,hl⟩:=Rel.frzs l R1 (fun q hq=>by
   obtain⟨e',lv',g',v',h1⟩:=h q (by simp [hq]);rw [xnm,h1];split
   ·exact⟨e',false,g',v',rfl⟩
   ·exact⟨e',lv',g',v',rfl⟩)
  refine⟨E',R2,fun b hb=>hB b (.inl hb),fun q hq o ho=>?_⟩;by_cases hql:q∈l
  ·exact hl q hql o ho
  ·have hqr:q=r:=by
    rcases List.mem_cons.1 hq with h|h
    ·exact h
    ·exact absurd h hql
   subst hqr;have keep:∀(l:List Nat) (σ:AS),(∀o,σ.ob[q]?=some o→o.live=false)→∀o,(σ.frz l).ob[q]?=some o→o.live=false:=by
    intro l
    induction l with
    |nil=>intro σ h;exact h
    |cons r' l ih=>
     intro σ h o ho;refine ih (σ.upd r' Ob.freeze) (fun o ho=>?_) o ho;rw [xnm] at ho;split at ho
     ·rw [Option.map_eq_some_iff] at ho
      obtain⟨o',_,rfl⟩:=ho;rfl
     ·exact h o ho
   refine keep l (σ.upd q Ob.freeze) (fun o ho=>?_) o ho;rw [xnm,if_pos rfl,hr] at ho;simp at ho;subst ho;rfl
theorem xmo (R:Rel cx E σ a w) {r g:Nat} {v:Value} (h:RdT E w (.own r g) v) (hg:(bT σ r g).2.2) (hf:∀o,σ.ob[r]?=some o→o.live=false):RdV E w (.sl true (bT σ r g).1 (bT σ r g).2.1) [v]:=by
 obtain⟨e',lv,s',l,xs,q1,q2,q3,q4,q5,q6,q7,q8,q9,q10,q11⟩:=xeb R h hg;have hlv:=hf _ q1;simp only at hlv;subst hlv;rw [q2,q3];simp only [RdV];refine⟨q5,q6,?_⟩;rcases q9.2 with ⟨rfl,hn⟩|⟨b,cap,cur,rfl,m1,m2,m3,m4,m5,m6⟩
 ·exact⟨none,0,by rw [hn],ω,ω,fun h0=>by omega⟩
 ·refine⟨_,cap,rfl,m3,q8,fun h0=>⟨b,0,xs,rfl,by simpa using q11 b rfl,fun _=>(R.fr b).2 m1,q10,fun j v hv=>?_⟩⟩
  rw [←m6,List.getElem?_take] at hv;split at hv
  ·simpa [World.cell?,m2] using hv
  ·cases hv
mutual
theorem xog (R:Rel cx E σ a w):∀{x:V} {cs:List Value},V.resOk σ x→(∀r∈x.ids,∀o,σ.ob[r]?=some o→o.live=false)→RdV E w x cs→RdV E w (x.res σ []) cs
 | .own r g,cs,hp,hf,h=>by
  have h':=h;simp only [RdV] at h';obtain⟨v,rfl,_⟩:=h';simp only [V.resOk] at hp;simp only [V.res,List.idxOf?_nil];exact xmo R (by simpa only [RdT] using h) hp (hf r (by simp [V.ids]))
 | .agg l,cs,hp,hf,h=>by simp only [V.resOk] at hp;simp only [V.ids] at hf;simp only [RdV,V.res] at h⊢;exact xud R hp hf h
 | .arr s l,cs,hp,_,h=>h
 | .sl t s l,cs,hp,_,h=>h
 | .int k n,cs,_,_,h=>h
 | .bool b,cs,_,_,h=>h
 | .str b,cs,_,_,h=>h
 | .nilS,cs,_,_,h=>h
 | .ptr r g p o,cs,hp,_,h=>by simp [V.resOk] at hp
 | .osl r g s a b,cs,hp,_,h=>by simp [V.resOk] at hp
 | .rp x,cs,hp,_,h=>h
 | .fn f,cs,hp,_,h=>h
 | .lit f,cs,hp,_,h=>h
 | .tup l,cs,hp,_,h=>by simp only [RdV] at h
 | .clo f l,cs,hp,_,h=>by simp only [RdV] at h
 | .junk,cs,hp,_,h=>by simp only [RdV] at h
theorem xud (R:Rel cx E σ a w):∀{l:List V} {cs:List Value},V.ressOk σ l→(∀r∈V.idss l,∀o,σ.ob[r]?=some o→o.live=false)→RdL E w l cs→RdL E w (V.ress σ [] l) cs
 |[],xs,_,_,h=>by simp only [RdL,V.ress] at h⊢;exact h
 |x::l,xs,hp,hf,h=>by
  simp only [V.ressOk] at hp;simp only [V.idss,List.mem_append] at hf;simp only [RdL,V.ress] at h⊢;obtain⟨c,ys,h1,h2,h3⟩:=h;exact⟨c,ys,h1,xog R hp.1 (fun r hr=>hf r (.inl hr)) h2,xud R hp.2 (fun r hr=>hf r (.inr hr)) h3⟩
end
mutual
theorem xuc (R:Rel cx E σ a w):∀{x:V} {v:Value},V.resOk σ x→(∀r∈x.ids,∀o,σ.ob[r]?=some o→o.live=false)→RdT E w x v→RdT E w (x.res σ []) v
 | .own r g,v,hp,hf,h=>by
  have:=xog R hp hf (by simpa only [RdT] using h);simp only [V.res,List.idxOf?_nil] at this⊢;simpa only [RdT] using this
 | .agg l,v,hp,hf,h=>by
  simp only [RdT] at h;obtain⟨cs,rfl,h⟩:=h;have:=xog R hp hf h;simp only [V.res] at this⊢;simp only [RdT];exact⟨cs,rfl,this⟩
 | .tup l,v,hp,hf,h=>by
  simp only [V.resOk] at hp;simp only [V.ids] at hf;simp only [RdT,V.res] at h⊢;obtain⟨vs,h1,h2⟩:=h;exact⟨vs,h1,xoh R hp hf h2⟩
 | .clo f l,v,hp,hf,h=>by
  simp only [V.resOk] at hp;simp only [V.ids] at hf;simp only [RdT,V.res] at h⊢;obtain⟨vs,h1,h2⟩:=h;exact⟨vs,h1,xoh R hp.1 hf h2⟩
 | .arr s l,v,hp,_,h=>h
 | .sl t s l,v,hp,_,h=>h
 | .int k n,v,_,_,h=>h
 | .bool b,v,_,_,h=>h
 | .str b,v,_,_,h=>h
 | .nilS,v,_,_,h=>h
 | .ptr r g p o,v,hp,_,h=>by simp [V.resOk] at hp
 | .osl r g s a b,v,hp,_,h=>by simp [V.resOk] at hp
 | .rp x,v,hp,_,h=>h
 | .fn f,v,hp,_,h=>h
 | .lit f,v,hp,_,h=>h
 | .junk,v,hp,_,h=>by simp [V.resOk] at hp
theorem xoh (R:Rel cx E σ a w):∀{l:List V} {vs:List Value},V.ressOk σ l→(∀r∈V.idss l,∀o,σ.ob[r]?=some o→o.live=false)→RdTs E w l vs→RdTs E w (V.ress σ [] l) vs
 |[],xs,_,_,h=>by simp only [RdTs,V.ress] at h⊢;exact h
 |x::l,xs,hp,hf,h=>by
  simp only [V.ressOk] at hp;simp only [V.idss,List.mem_append] at hf;simp only [RdTs,V.ress] at h⊢;obtain⟨c,ys,h1,h2,h3⟩:=h;exact⟨c,ys,h1,xuc R hp.1 (fun r hr=>hf r (.inl hr)) h2,xoh R hp.2 (fun r hr=>hf r (.inr hr)) h3⟩
end
mutual
theorem xx5:∀{x:V},V.resOk σ x→∀r∈x.ids,∃e lv g v,σ.ob[r]?=some ⟨.row e,lv,g,v⟩
 | .own q g,hp,r,hr=>by
  simp only [V.ids,List.mem_singleton] at hr;subst hr;simp only [V.resOk] at hp;obtain⟨e,lv,s,l,h1,_⟩:=xn4 hp;exact⟨e,lv,g,_,h1⟩
 | .agg l,hp,r,hr=>by simp only [V.resOk] at hp;simp only [V.ids] at hr;exact xl5 hp r hr
 | .tup l,hp,r,hr=>by simp only [V.resOk] at hp;simp only [V.ids] at hr;exact xl5 hp r hr
 | .clo f l,hp,r,hr=>by simp only [V.resOk] at hp;simp only [V.ids] at hr;exact xl5 hp.1 r hr
 | .arr s l,hp,r,hr=>by simp [V.ids] at hr
 | .sl t s l,hp,r,hr=>by simp [V.ids] at hr
 | .int k n,_,r,hr=>by simp [V.ids] at hr
 | .bool b,_,r,hr=>by simp [V.ids] at hr
 | .str b,_,r,hr=>by simp [V.ids] at hr
 | .nilS,_,r,hr=>by simp [V.ids] at hr
 | .ptr q g p o,hp,r,hr=>by simp [V.resOk] at hp
 | .osl q g s a b,hp,r,hr=>by simp [V.resOk] at hp
 | .rp x,hp,r,hr=>by simp [V.ids] at hr
 | .fn f,hp,r,hr=>by simp [V.ids] at hr
 | .lit f,hp,r,hr=>by simp [V.ids] at hr
 | .junk,hp,r,hr=>by simp [V.resOk] at hp
theorem xl5:∀{l:List V},V.ressOk σ l→∀r∈V.idss l,∃e lv g v,σ.ob[r]?=some ⟨.row e,lv,g,v⟩
 |[],_,r,hr=>by simp [V.idss] at hr
 |x::l,hp,r,hr=>by
  simp only [V.ressOk] at hp;simp only [V.idss,List.mem_append] at hr;rcases hr with hr|hr
  ·exact xx5 hp.1 r hr
  ·exact xl5 hp.2 r hr
end
theorem Rel.calm1 (R:Rel cx E σ a w) {i:Nat} (h:xka σ i):∃E',Rel cx E' (σ.calm i) a w:=by
 unfold xka at h;unfold AS.calm;split at h
 ·exact⟨E,R⟩
 ·rename_i r l e
  have hrows:=xx5 h;rw [e] at hrows;obtain⟨E',R',_,hl⟩:=Rel.frzs (r::l) R hrows;have ht:=yls (r::l) σ;refine⟨E',R'.df,?_,fun j=>?_,R'.len,R'.ob,R'.sep,R'.lt,R'.fr,R'.old,R'.keep⟩
  ·rw [R'.n,ht.2]
  ·simp only [aV]
   split
   ·rename_i ej
    subst ej;have h1:=R'.tm i;rw [ht.1] at h1;have h2:=xws (aV σ.t i) (r::l) σ;have h3:=xuc R' (x:=aV σ.t i) (by rw [h2.2];exact h) (by rw [e];exact hl) h1;rw [h2.1] at h3;exact h3
   ·have h1:=R'.tm j
    rw [ht.1] at h1;exact h1
theorem ygx (i:Nat):(σ.calm i).n=σ.n:=by
 unfold AS.calm;split<;>rfl
theorem Rel.calmL:∀(l:List X) {σ:AS} {E:Env},Rel cx E σ a w→(xaq σ l).2→∃E',Rel cx E' (xaq σ l).1 a w∧(xaq σ l).1.n=σ.n
 |[],σ,E,R,_=>⟨E,R,rfl⟩
 | .c _::l,σ,E,R,h=>Rel.calmL l R h
 | .t i::l,σ,E,R,h=>by
  obtain⟨E1,R1⟩:=R.calm1 h.1;obtain⟨E2,R2,h2⟩:=Rel.calmL l R1 h.2;exact⟨E2,R2,h2.trans (ygx i)⟩
theorem Rel.calmO (R:Rel cx E σ a w) {m:MOp} (h:(qN σ m).2):∃E',Rel cx E' (qN σ m).1 a w∧(qN σ m).1.n=σ.n:=by
 unfold qN at h⊢;split at h
 ·exact Rel.calmL _ R h
 ·unfold xof at h⊢
  split at h
  ·split at h
   ·exact Rel.calmL _ R h
   ·exact⟨E,R,rfl⟩
  ·exact⟨E,R,rfl⟩
 all_goals exact⟨E,R,rfl⟩
end
end Rdn.Dp
namespace Rdn.Dp
open Go Go.RowKit Rdn
inductive RK where
 |p (m:POp)
 |m (m:MOp)
 |call (f:FuncId) (xs:List X)
 |callv (x:X) (xs:List X)
structure RO where
 d:Option Nat
 gd:Option (Nat×Bool)
 k:RK
inductive MC where
 |skip
 |reg (l:List RO)
 |dreg (l:List RO) (B:List (List Nat))
 |seq (a b:MC)
 |cond (x:X) (a b:MC)
 |block (id:Nat) (c:MC)
 |loop (c:MC)
 |exit (id:Nat)
 |ret
 |bad
section
variable (P:Program)
def rU (op:Op):Option RK:=
 match xbp P op with
 |some m=>some (.p m)
 |none=>match rC P op with
  |some m=>some (.m m)
  |none=>match op with
   | .call {callee:=.value (.func f),args:=as,..}=>match P.funcs[f]? with
    | some fn => if fn.body.isSome && fn.name != "runtime.NumGoroutine" then (vF as.toList).map (.call f) else some (.p .bad)
    |none=>some (.p .bad)
   | .call {callee:=.value (.tmp i),args:=as,..}=>(vF as.toList).map (.callv (.t i))
   |_=>some (.p .bad)
def xg5 (ops:Array Oper):Option (Nat×Bool)→Option (Option (Nat×Bool))
 |none=>some none
 |some (j,b)=>match (ops[j]?).bind (·.dst) with
  |some t=>some (some (t,b))
  |none=>none
def xkg (n:Nat) (ops:Array Oper) (o:Oper):Option RO:=
 match rU P o.op,xg5 ops o.guard with
 |some k,some g=>if o.dst.all (· <n) then some ⟨o.dst,g,k⟩ else none
 |_,_=>none
def wE (n:Nat) (ops:Array Oper):List Oper→Option (List RO)
 |[]=>some []
 |o::l=>match xkg P n ops o,wE n ops l with
  |some r,some m=>some (r::m)
  |_,_=>none
def comp (n:Nat):Code→Option MC
 | .skip=>some .skip
 | .region _ ops draw=>match wE P n ops ops.toList with
  |some l=>if draw then(if xed ops (xhd ops) then some (.dreg l (xhd ops)) else none) else some (.reg l)
  |none=>none
 | .seq a b=>match comp n a,comp n b with
  |some x,some y=>some (.seq x y)
  |_,_=>none
 | .cond c a b=>match dC c,comp n a,comp n b with
  |some z,some x,some y=>some (.cond z x y)
  |_,_,_=>none
 | .block id c=>(comp n c).map (.block id)
 | .loop c=>(comp n c).map .loop
 | .exit id=>some (.exit id)
 | .ret=>some .ret
 |_=>some .bad
end
inductive It where
 |code (m:MC)
 |inBlock (id:Nat)
 |goal (J:AS→Prop)
 |rounds (m:MC) (n:Nat)
section
variable (P:Program) (cx:Cx) (N:Nat) (Q:Exit→Act→World→Prop)
mutual
def oH:List It→Act→World→Prop
 |[],a,w=>Q .normal a w
 | .code m::k,a,w=>∀c,comp P N c=some m→c.wp P (fun e=>match e with| .normal=>oH k| .exit id=>pG k id|e=>Q e) a w
 | .inBlock id::k,a,w=>oH k a w
 | .goal J::k,a,w=>∃E σ,J σ∧σ.n=N∧Rel cx E σ a w
 | .rounds m n::k,a,w=>∀c,comp P N c=some m→Code.rounds P c (fun e=>match e with| .normal=>oH k| .exit id=>pG k id|e=>Q e) n a w
def pG:List It→Nat→Act→World→Prop
 |[],id,a,w=>Q (.exit id) a w
 | .inBlock id'::k,id,a,w=>if id=id' then oH k a w else pG k id a w
 | .code _::k,id,a,w=>pG k id a w
 | .goal _::k,id,a,w=>pG k id a w
 | .rounds _ _::k,id,a,w=>pG k id a w
end
def lT (k:List It):Exit→Act→World→Prop
 | .normal=>oH P cx N Q k
 | .exit id=>pG P cx N Q k id
 |e=>Q e
structure Ev (k:List It) (σ:AS):Prop where
 h:σ.n=N→∀E a w,Rel cx E σ a w→oH P cx N Q k a w
def xe9 (id:Nat):List It→Option (List It)
 |[]=>none
 | .inBlock id'::k=>if id=id' then some k else xe9 id k
 | .code _::k=>xe9 id k
 | .goal _::k=>xe9 id k
 | .rounds _ _::k=>xe9 id k
structure EvR (k:List It) (l:List RO) (σ:AS):Prop where
 h:σ.n=N→∀E a w,Rel cx E σ a w→∀ops os,wE P N ops os=some l→wpList P ops (lT P cx N Q k) os a w
end
section
variable {P:Program} {cx:Cx} {N:Nat} {Q:Exit→Act→World→Prop} {k:List It} {σ:AS}
theorem yl5 {id:Nat} {k':List It} (h:xe9 id k=some k'):pG P cx N Q k id=oH P cx N Q k':=by
 induction k with
 |nil=>cases h
 |cons i k ih=>
  cases i with
  |inBlock id'=>
   simp only [xe9] at h;funext a w;simp only [pG];split at h
   ·rename_i e;cases h;rw [if_pos e]
   ·rename_i e;rw [if_neg e,ih h]
  |code m=>funext a w;simp only [pG,ih h]
  |goal J=>funext a w;simp only [pG,ih h]
  |rounds m n=>funext a w;simp only [pG,ih h]
theorem rP {m:MC} {a:Act} {w:World}:oH P cx N Q (.code m::k) a w=∀c,comp P N c=some m→c.wp P (lT P cx N Q k) a w:=by
 simp only [oH];have e:(fun e=>match e with|Exit.normal=>oH P cx N Q k| .exit id=>pG P cx N Q k id|e=>Q e)=lT P cx N Q k:=by
  funext e;cases e<;>rfl
 rw [e]
theorem xb0 (h:Ev P cx N Q k σ):Ev P cx N Q (.code .skip::k) σ:=by
 refine⟨fun hn E a w R=>?_⟩;rw [rP];intro c hc;cases c<;>simp only [comp] at hc
 case skip=>exact wp_skip (h.h hn E a w R)
 all_goals (first|cases hc|(split at hc<;>first|cases hc|(split at hc<;>first|cases hc|(split at hc<;>cases hc)))|(simp at hc))
theorem xaz {x y:MC} (h:Ev P cx N Q (.code x::.code y::k) σ):Ev P cx N Q (.code (.seq x y)::k) σ:=by
 refine⟨fun hn E a w R=>?_⟩;rw [rP];intro c hc;cases c<;>simp only [comp] at hc
 case seq c1 c2=>
  split at hc
  ·rename_i h1 h2
   cases hc;have:=h.h hn E a w R;rw [rP] at this;refine wp_seq (wp_mono (this c1 h1) fun e a w hq=>?_);cases e with
   |normal=>
    have hq:oH P cx N Q (.code y::k) a w:=hq;rw [rP] at hq;exact hq c2 h2
   |exit id=>exact hq
   |goto l=>exact hq
   |ret=>exact hq
   |panic c=>exact hq
   |outgrown=>exact hq
  ·cases hc
 all_goals (first|cases hc|(split at hc<;>first|cases hc|(split at hc<;>first|cases hc|(split at hc<;>cases hc)))|(simp at hc))
theorem xw4 {x:X} {y z:MC} {t:Bool} (hx:x.ev σ=.bool t) (h1:t=true→Ev P cx N Q (.code y::k) σ) (h2:t=false→Ev P cx N Q (.code z::k) σ):Ev P cx N Q (.code (.cond x y z)::k) σ:=by
 refine⟨fun hn E a w R=>?_⟩;rw [rP];intro c hc;cases c<;>simp only [comp] at hc
 case cond o c1 c2=>
  split at hc
  ·rename_i k0 k1 k2
   cases hc;have hr:=dX R k0;rw [hx] at hr;refine wp_cond_split (xca hr) (fun e=>?_) (fun e=>?_)
   ·have:=(h1 e).h hn E a w R
    rw [rP] at this;exact this _ k1
   ·have:=(h2 e).h hn E a w R
    rw [rP] at this;exact this _ k2
  ·cases hc
 all_goals (first|cases hc|(split at hc<;>first|cases hc|(split at hc<;>first|cases hc|(split at hc<;>cases hc)))|(simp at hc))
theorem xav {id:Nat} {x:MC} (h:Ev P cx N Q (.code x::.inBlock id::k) σ):Ev P cx N Q (.code (.block id x)::k) σ:=by
 refine⟨fun hn E a w R=>?_⟩;rw [rP];intro c hc;cases c<;>simp only [comp] at hc
 case block id' c=>
  simp only [Option.map_eq_some_iff] at hc;obtain⟨y,h1,h2⟩:=hc;cases h2;have:=h.h hn E a w R;rw [rP] at this;refine wp_block (wp_mono (this c h1) fun e a w hq=>?_);cases e with
  |normal=>simpa only [lT,oH,Exit.inBlock] using hq
  |exit id'=>
   simp only [lT,pG] at hq;simp only [Exit.inBlock];split
   ·rename_i e;rw [if_pos e] at hq;exact hq
   ·rename_i e;rw [if_neg e] at hq;exact hq
  |goto l=>exact hq
  |ret=>exact hq
  |panic c=>exact hq
  |outgrown=>exact hq
 all_goals (first|cases hc|(split at hc<;>first|cases hc|(split at hc<;>first|cases hc|(split at hc<;>cases hc)))|(simp at hc))
theorem xax {id:Nat} (h:Ev P cx N Q k σ):Ev P cx N Q (.inBlock id::k) σ:=by
 refine⟨fun hn E a w R=>?_⟩;simp only [oH];exact h.h hn E a w R
theorem xaw {id:Nat} {k':List It} (hp:xe9 id k=some k') (h:Ev P cx N Q k' σ):Ev P cx N Q (.code (.exit id)::k) σ:=by
 refine⟨fun hn E a w R=>?_⟩;rw [rP];intro c hc;cases c<;>simp only [comp] at hc
 case exit id'=>
  obtain rfl:id'=id:=by simpa using hc
  refine wp_exit ?_;show pG P cx N Q k _ a w;rw [yl5 hp];exact h.h hn E a w R
 all_goals (first|cases hc|(split at hc<;>first|cases hc|(split at hc<;>first|cases hc|(split at hc<;>cases hc)))|(simp at hc))
theorem xgb (h:∀E a w,Rel cx E σ a w→Q .ret a w):Ev P cx N Q (.code .ret::k) σ:=by
 refine⟨fun hn E a w R=>?_⟩;rw [rP];intro c hc;cases c<;>simp only [comp] at hc
 case ret=>exact wp_ret (h E a w R)
 all_goals (first|cases hc|(split at hc<;>first|cases hc|(split at hc<;>first|cases hc|(split at hc<;>cases hc)))|(simp at hc))
theorem xw8 {J:AS→Prop} (h:J σ):Ev P cx N Q (.goal J::k) σ:=by
 refine⟨fun hn E a w R=>?_⟩;simp only [oH];exact⟨E,σ,h,hn,R⟩
theorem ykj {t:List (Nat×V)} {m:Nat} (hm:m≤σ.ob.length) (ht:∀x∈t,aV σ.t x.1=aV t x.1) (hs:∀x∈t,x.2.scp m=true) (ho:∀o∈σ.ob.take m,o.scp m=true) (h:Ev P cx N Q k ⟨σ.n,t,σ.ob.take m⟩):Ev P cx N Q k σ:=by
 refine⟨fun hn E a w R=>?_⟩;have key:∀(t:List (Nat×V)) i,(∃x∈t,x.1=i∧aV t i=x.2)∨aV t i=.junk:=by
  intro t i
  induction t with
  |nil=>exact .inr rfl
  |cons p l ih=>
   obtain⟨j,x⟩:=p;by_cases e:j=i
   ·exact .inl ⟨(j,x),by simp,e,by simp [aV,e]⟩
   ·rcases ih with ⟨y,h1,h2,h3⟩|h3
    ·exact .inl ⟨y,by simp [h1],h2,by simp [aV,e,h3]⟩
    ·exact .inr (by simp [aV,e,h3])
 have R1:=R.less (t:=t) (fun i=>by
  rcases key t i with ⟨x,h1,h2,h3⟩|h3
  ·right;rw [←h2];exact(ht x h1).symm
  ·exact .inl h3)
 have R2:=R1.cut m hm (fun i=>by
  rcases key t i with ⟨x,h1,h2,h3⟩|h3
  ·show(aV t i).scp m=true
   rw [h3];exact hs x h1
  ·show(aV t i).scp m=true
   rw [h3];rfl) ho
 exact h.h hn _ a w R2
theorem ykk {ι:Type} (I:ι→AS) (μ:ι→Nat) (i0:ι) (hI:Ev P cx N Q [.goal fun σ'=>σ'=I i0] σ) {x:MC}
  (round:∀i,Ev P cx N Q (.code x::.goal (fun σ'=>∃i',σ'=I i'∧μ i'<μ i)::k) (I i)):Ev P cx N Q (.code (.loop x)::k) σ:=by
 refine⟨fun hn E a w R=>?_⟩;rw [rP];intro c hc;cases c<;>simp only [comp] at hc
 case loop c=>
  simp only [Option.map_eq_some_iff] at hc;obtain⟨y,h1,h2⟩:=hc;cases h2;have h0:=hI.h hn E a w R;simp only [oH] at h0;obtain⟨E0,σ0,rfl,hn0,R0⟩:=h0;intro b kk cs;have key:∀n i a w,μ i=n→(∃E,(I i).n=N∧Rel cx E (I i) a w)→∃e a' w',lT P cx N Q k e a' w'∧Arrives P (lone (b.at a (.code c::.inLoop c::kk)) cs w) b kk cs e a' w':=by
   intro n
   induction n using Nat.strongRecOn with
   |_ n ih=>
    intro i a w hμ ⟨E,hni,Ri⟩;have hr:=(round i).h hni E a w Ri;rw [rP] at hr;obtain⟨e,a1,w1,hq,harr⟩:=hr c h1 b (.inLoop c::kk) cs;cases e with
    |normal=>
     have hq:oH P cx N Q (.goal (fun σ'=>∃i',σ'=I i'∧μ i'<μ i)::k) a1 w1:=hq;simp only [oH] at hq;obtain⟨E1,σ1,⟨i',rfl,hlt⟩,hn1,R1⟩:=hq;obtain⟨e2,a2,w2,hq2,harr2⟩:=ih (μ i') (hμ▸hlt) i' a1 w1 rfl ⟨E1,hn1,R1⟩;exact⟨e2,a2,w2,hq2,.of_steps (Steps.trans harr (.one step_inLoop)) harr2⟩
    |exit id=>
     have hq:pG P cx N Q (.goal (fun σ'=>∃i',σ'=I i'∧μ i'<μ i)::k) id a1 w1:=hq;simp only [pG] at hq;exact⟨.exit id,a1,w1,hq,.pass (x:=.inLoop c) rfl (fun _ _=> .inl ξ) harr⟩
    |goto l=>exact⟨.goto l,a1,w1,hq,.pass (x:=.inLoop c) rfl (fun _ _=> .inl ξ) harr⟩
    |ret=>exact⟨.ret,a1,w1,hq,.pass (x:=.inLoop c) rfl (fun _ _=> .inl ξ) harr⟩
    |panic ch=>exact⟨.panic ch,a1,w1,hq,.pass (x:=.inLoop c) rfl (fun _ _=> .inl ξ) harr⟩
    |outgrown=>exact⟨.outgrown,a1,w1,hq,.pass (x:=.inLoop c) rfl (fun _ _=> .inl ξ) harr⟩
  obtain⟨e,a',w',hq,harr⟩:=key _ i0 a w rfl ⟨E0,hn0,R0⟩;exact⟨e,a',w',hq,.of_steps (.one step_loop) harr⟩
 all_goals (first|cases hc|(split at hc<;>first|cases hc|(split at hc<;>first|cases hc|(split at hc<;>cases hc)))|(simp at hc))
theorem xtc {m:MC} {n:Nat} {a:Act} {w:World}:oH P cx N Q (.rounds m n::k) a w=∀c,comp P N c=some m→Code.rounds P c (lT P cx N Q k) n a w:=by
 simp only [oH];have e:(fun e=>match e with|Exit.normal=>oH P cx N Q k| .exit id=>pG P cx N Q k id|e=>Q e)=lT P cx N Q k:=by
  funext e;cases e<;>rfl
 rw [e]
theorem fU (n:Nat) {x:MC} (h:Ev P cx N Q (.rounds x n::k) σ):Ev P cx N Q (.code (.loop x)::k) σ:=by
 refine⟨fun hn E a w R=>?_⟩;rw [rP];intro c hc;cases c<;>simp only [comp] at hc
 case loop c=>
  simp only [Option.map_eq_some_iff] at hc;obtain⟨y,h1,h2⟩:=hc;cases h2;have:=h.h hn E a w R;rw [xtc] at this;exact wp_loop_rounds n (this c h1)
 all_goals (first|cases hc|(split at hc<;>first|cases hc|(split at hc<;>first|cases hc|(split at hc<;>cases hc)))|(simp at hc))
theorem xay {n:Nat} {x:MC} (h:Ev P cx N Q (.code x::.rounds x n::k) σ):Ev P cx N Q (.rounds x (n+1)::k) σ:=by
 refine⟨fun hn E a w R=>?_⟩;rw [xtc];intro c hc;have:=h.h hn E a w R;rw [rP] at this;refine wp_mono (this c hc) fun e a w hq=>?_;cases e with
 |normal=>
  have hq:oH P cx N Q (.rounds x n::k) a w:=hq;rw [xtc] at hq;exact hq c hc
 |exit id=>
  have hq:pG P cx N Q (.rounds x n::k) id a w:=hq;simp only [pG] at hq;exact hq
 |goto l=>exact hq
 |ret=>exact hq
 |panic c=>exact hq
 |outgrown=>exact hq
theorem kZ {l:List RO} (h:EvR P cx N Q k l σ):Ev P cx N Q (.code (.reg l)::k) σ:=by
 refine⟨fun hn E a w R=>?_⟩;rw [rP];intro c hc;cases c<;>simp only [comp] at hc
 case region id ops draw=>
  split at hc
  ·rename_i h1
   cases draw with
   |false=>
    simp only [Bool.false_eq_true,if_false,Option.some.injEq,MC.reg.injEq] at hc;subst hc;exact wp_region_list (h.h hn E a w R ops ops.toList h1)
   |true=>simp only [if_true] at hc;split at hc<;>simp at hc
  ·cases hc
 all_goals (first|cases hc|(split at hc<;>first|cases hc|(split at hc<;>first|cases hc|(split at hc<;>cases hc)))|(simp at hc))
theorem bY (h:Ev P cx N Q k σ):EvR P cx N Q k [] σ:=by
 refine⟨fun hn E a w R ops os hc=>?_⟩;cases os with
 |nil=>exact h.h hn E a w R
 |cons o os=>
  simp only [wE] at hc;split at hc<;>cases hc
theorem kX {ops:Array Oper} {os:List Oper} {r:RO} {l:List RO} (h:wE P N ops os=some (r::l)):∃o os',os=o::os'∧xkg P N ops o=some r∧wE P N ops os'=some l:=by
 cases os with
 |nil=>simp [wE] at h
 |cons o os=>
  simp only [wE] at h;split at h
  ·rename_i h1 h2
   cases h;exact⟨o,os,rfl,h1,h2⟩
  ·cases h
theorem kY {ops:Array Oper} {o:Oper} {r:RO} (h:xkg P N ops o=some r):rU P o.op=some r.k∧xg5 ops o.guard=some r.gd∧o.dst=r.d∧∀i,r.d=some i→i<N:=by
 unfold xkg at h;split at h
 ·rename_i h1 h2
  split at h
  ·rename_i h3
   cases h;refine⟨h1,h2,rfl,fun i hi=>?_⟩;rw [show o.dst=some i from hi] at h3;simpa using h3
  ·cases h
 ·cases h
theorem AS.put_n (σ:AS) (d:Option Nat) (x:V):(σ.put d x).n=σ.n:=by cases d<;>rfl
def bQ (σ:AS):Option (Nat×Bool)→Option Bool
 |none=>some true
 |some (t,b)=>match aV σ.t t with
  | .bool c=>some (c==b)
  | .tup []=>some false
  |_=>none
theorem yff {a:Act} (hs:∀t c,aV σ.t t=.bool c→a.tmps.getD t undef=.bool c) (ht:∀t,aV σ.t t=.tup []→a.tmps.getD t undef=.tuple #[]) {ops:Array Oper} {o:Oper} {gd:Option (Nat×Bool)} (hg:xg5 ops o.guard=some gd) {b:Bool} (h:bQ σ gd=some b):Region.wanted o (yielded ops a.tmps)=b:=by
 unfold xg5 at hg;unfold Region.wanted;split at hg
 ·rename_i e
  cases hg;simp only [bQ,Option.some.injEq] at h;rw [e,←h]
 ·rename_i j c e
  split at hg
  ·rename_i t htt
   cases hg;rw [e];simp only [bQ] at h;have hy:yielded ops a.tmps j=match a.tmps[t]? with|some (.bool b)=>some b|_=>none:=by
    unfold yielded;rw [htt];rfl
   split at h
   ·rename_i d e2
    have:=hs t d e2;have e3:a.tmps[t]?=some (.bool d):=by
     rw [Array.getD_eq_getD_getElem?] at this;cases hq:a.tmps[t]? with
     |none=>rw [hq] at this;simp [undef] at this
     |some x=>rw [hq] at this;simp at this;rw [this]
    simp only [hy,e3];simp only [Option.some.injEq] at h;rw [←h];simp
   ·rename_i e2
    have h1:=ht t e2;simp only [Option.some.injEq] at h;subst h;have e3:∀b,a.tmps[t]?≠some (.bool b):=by
     intro b hq;rw [Array.getD_eq_getD_getElem?,hq] at h1;simp at h1
    have e4:yielded ops a.tmps j=none:=by
     rw [hy];split
     ·rename_i b hq;exact absurd hq (e3 b)
     ·rfl
    simp only [e4];rfl
   ·cases h
  ·cases hg
theorem uH {E:Env} {a:Act} {w:World} (R:Rel cx E σ a w) {ops:Array Oper} {o:Oper} {gd:Option (Nat×Bool)} (hg:xg5 ops o.guard=some gd) {b:Bool} (h:bQ σ gd=some b):Region.wanted o (yielded ops a.tmps)=b:=by
 refine yff (fun t c e=>?_) (fun t e=>?_) hg h
 ·have hr:=R.tm t
  rw [e] at hr;exact xca hr
 ·have hr:=R.tm t
  rw [e] at hr;simp only [RdT,RdTs] at hr;obtain⟨vs,h1,rfl⟩:=hr;exact h1
theorem xex {r:RO} {l:List RO} (hw:bQ σ r.gd=some false) (h:EvR P cx N Q k l (σ.put r.d (.tup []))):EvR P cx N Q k (r::l) σ:=by
 refine⟨fun hn E a w R ops os hc=>?_⟩;obtain⟨o,os',rfl,h1,h2⟩:=kX hc;obtain⟨k1,k2,k3,k4⟩:=kY h1;unfold wpList;rw [if_neg (by rw [uH R k2 hw];simp),k3];refine h.h (by rw [AS.put_n];exact hn) E _ w (R.put (fun i hi=>by rw [hn];exact k4 i hi) ?_) ops os' h2;simp only [RdT,RdTs];exact⟨[],rfl,rfl⟩
theorem xew {d:Option Nat} {gd:Option (Nat×Bool)} {m:POp} {l:List RO} (hw:bQ σ gd=some true) (hc:(iF σ m).2) (h:EvR P cx N Q k l (σ.put d (iF σ m).1)):EvR P cx N Q k (⟨d,gd,.p m⟩::l) σ:=by
 refine⟨fun hn E a w R ops os hcc=>?_⟩;obtain⟨o,os',rfl,h1,h2⟩:=kX hcc;obtain⟨k1,k2,k3,k4⟩:=kY h1;unfold wpList;rw [if_pos (uH R k2 hw)];refine .inl ?_;have k1':xbp P o.op=some m:=by
  have k1:rU P o.op=some (.p m):=k1;have hb:m≠.bad:=fun e=>by subst e;exact hc
  unfold rU at k1;split at k1
  ·rename_i e;cases k1;exact e
  ·split at k1
   ·cases k1
   ·split at k1
    ·split at k1
     ·split at k1
      ·simp at k1
      ·cases k1;exact absurd rfl hb
     ·cases k1;exact absurd rfl hb
    ·simp at k1
    ·cases k1;exact absurd rfl hb
 obtain⟨v,hr,hx⟩:=ybh k1' R hc;unfold Oper.wp;rw [hr,Oper.upon_value,show o.dst=d from k3];exact h.h (by rw [AS.put_n];exact hn) E _ w (R.put (fun i hi=>by rw [hn];exact k4 i hi) hx) ops os' h2
theorem yi0 {op:Op} {n:Nat} {b:BinOp} {x y:X} (h:xbp P op=some (.bin n b x y)):∃T x0 y0 yt,op=.binOp b T x0 y0 yt∧xde P T=n∧dC x0=some x∧dC y0=some y:=by
 cases op
 case binOp op T x0 y0 yt=>
  simp only [xbp] at h;split at h
  ·simp [Option.map_eq_some_iff,Option.bind_eq_some_iff] at h
  ·simp only [Option.map_eq_some_iff,Option.bind_eq_some_iff,POp.bin.injEq] at h
   obtain⟨a1,q1,a2,q2,e1,e2,e3,e4⟩:=h;subst e2 e3 e4;exact⟨T,x0,y0,yt,rfl,e1,q1,q2⟩
 all_goals
  exfalso
  unfold xbp at h
  (repeat' (split at h))<;>simp_all [Option.map_eq_some_iff,Option.bind_eq_some_iff]
theorem xgc {d:Option Nat} {gd:Option (Nat×Bool)} {x:X} {t:Bool} {s:Nat} {L:List V} {l:List RO} (hw:bQ σ gd=some true) (hx:x.ev σ=.sl t s L) (h:∀b,(L≠[]→b=false)→EvR P cx N Q k l (σ.put d (.bool b))):EvR P cx N Q k (⟨d,gd,.p (.bin 2 .eql x (.c .nilS))⟩::l) σ:=by
 refine⟨fun hn E a w R ops os hcc=>?_⟩;obtain⟨o,os',rfl,h1,h2⟩:=kX hcc;obtain⟨k1,k2,k3,k4⟩:=kY h1;unfold wpList;rw [if_pos (uH R k2 hw)];refine .inl ?_;have k1:rU P o.op=some (.p (.bin 2 .eql x (.c .nilS))):=k1;have k1':xbp P o.op=some (.bin 2 .eql x (.c .nilS)):=by
  unfold rU at k1;split at k1
  ·rename_i e;cases k1;exact e
  ·split at k1
   ·cases k1
   ·split at k1
    ·split at k1
     ·split at k1
      ·simp at k1
      ·cases k1
     ·cases k1
    ·simp at k1
    ·cases k1
 obtain⟨T,x0,y0,yt,ho,hT,hx0,hy0⟩:=yi0 k1';have hr:=dX R hx0;rw [hx] at hr;have hr':=dX R hy0;simp only [X.ev,RdT,RdV,List.cons.injEq,and_true] at hr hr';obtain⟨hp,hU,A,c,he,hc,hm,hne⟩:=hr;have hs:∃e,P.underlying T=some (.slice e):=by
  unfold xde at hT;split at hT
  ·cases hT
  ·exact⟨_,by assumption⟩
  ·cases hT
 obtain⟨e,hs⟩:=hs;have hrun:(execOp a.eval o).run P w=.ok (.value (.bool A.isNone)) w:=by
  simp only [execOp,ho,he,hr',Sem.run_bind];have hg:(eqGuard .eql T x0 y0 (.slice A L.length c) (.slice none 0 0)).run P w=.ok () w:=by rw [eqGuard_at_slice];rfl
  have hq:(binOp .eql T (.slice A L.length c) (.slice none 0 0)).run P w=.ok (.bool A.isNone) w:=by
   simp only [binOp];have h9:∀d:Nat,(Op.equalIn (d+1) T (.slice A L.length c) (.slice none 0 0)).run P w=.ok A.isNone w:=fun d=>by
    cases A<;>simp [Op.equalIn,run_underlying hs]
   simp [Op.equal,Op.maxDepth,h9 9999]
  simp only [hg,hq,Result.andThen_ok,Sem.run_pure]
 unfold Oper.wp;rw [hrun,Oper.upon_value,show o.dst=d from k3];refine(h A.isNone fun hL=>?_).h (by rw [AS.put_n];exact hn) E _ w (R.put (fun i hi=>by rw [hn];exact k4 i hi) (by simp only [RdT,RdV])) ops os' h2;obtain⟨b,o',xs,hA,_⟩:=hne (List.length_pos_iff.2 hL);rw [hA];rfl
theorem yku {d:Option Nat} {gd:Option (Nat×Bool)} {m:MOp} {l:List RO} (hw:bQ σ gd=some true) (hc:(dV σ m).2.2) (hnn:(dV σ m).2.1.n=σ.n) (h:EvR P cx N Q k l ((dV σ m).2.1.put d (dV σ m).1)):EvR P cx N Q k (⟨d,gd,.m m⟩::l) σ:=by
 refine⟨fun hn E a w R ops os hcc=>?_⟩;obtain⟨o,os',rfl,h1,h2⟩:=kX hcc;obtain⟨k1,k2,k3,k4⟩:=kY h1;unfold wpList;rw [if_pos (uH R k2 hw)];refine .inl ?_;have k1':rC P o.op=some m:=by
  have k1:rU P o.op=some (.m m):=k1;unfold rU at k1;split at k1
  ·cases k1
  ·split at k1
   ·rename_i e;cases k1;exact e
   ·split at k1
    ·split at k1
     ·split at k1
      ·simp at k1
      ·cases k1
     ·cases k1
    ·simp at k1
    ·cases k1
 obtain⟨v,w',E',hr,_,hx,R'⟩:=xa7 k1' R hc;have R2:=R'.put (d:=d) (fun i hi=>by rw [hnn,hn];exact k4 i hi) hx;have hgo:=h.h (by rw [AS.put_n,hnn];exact hn) E' _ w' R2 ops os' h2;unfold Oper.wp;rcases hr with hr|⟨hr,rfl⟩
 ·rw [hr,Oper.upon_value,show o.dst=d from k3]
  exact hgo
 ·rw [hr,Oper.upon_skip,show o.dst=d from k3]
  exact hgo
def Sub (x y:V):Prop:=∀S w v,RdT (lY S) w x v→RdT (lY S) w y v
theorem Sub.refl (x:V):Sub x x:=fun _ _ _ h=>h
theorem Sub.nil (s:Nat):Sub .nilS (.sl false s []):=by
 intro S w v h;simp only [RdT,RdV] at h⊢;simp at h;subst h;exact⟨rfl,by simp [Unif],none,0,by simp,by simp,by simp,by simp⟩
def Subs:List V→List V→Prop
 |[],[]=>True
 |x::l,y::m=>Sub x y∧Subs l m
 |_,_=>False
theorem Subs.rd {S:Nat→Prop} {w:World}:∀{l m:List V} {vs:List Value},Subs l m→RdTs (lY S) w l vs→RdTs (lY S) w m vs
 |[],[],vs,_,h=>h
 |x::l,y::m,vs,hs,h=>by
  simp only [RdTs] at h⊢;obtain⟨v,ys,h1,h2,h3⟩:=h;exact⟨v,ys,h1,hs.1 S w v h2,hs.2.rd h3⟩
 |[],y::m,vs,hs,h=>hs.elim
 |x::l,[],vs,hs,h=>hs.elim
def pK:List V→Prop
 |[]=>True
 | .tup _::_=>False
 |_::l=>pK l
theorem xv0 {E:Env} {a:Act} {w:World} (R:Rel cx E σ a w):∀{as:List Operand} {xs:List X},vF as=some xs→V.ressOk σ (xs.map (X.ev σ))→pK (xs.map (X.ev σ))→RdTs (lQ w) w (V.lows (V.ress σ [] (xs.map (X.ev σ)))) (as.map a.eval)
 |[],xs,h,_,_=>by simp only [vF,Option.some.injEq] at h;subst h;simp [RdTs,V.ress,V.lows]
 |o::as,xs,h,hr,ht=>by
  simp only [vF] at h;split at h
  ·rename_i y m h1 h2
   cases h;simp only [List.map_cons,V.ress,V.lows,RdTs,V.ressOk] at hr⊢;have ht':pK (m.map (X.ev σ))∧∀l,y.ev σ≠.tup l:=by
    simp only [List.map_cons] at ht;cases he:y.ev σ<;>rw [he] at ht<;>simp_all [pK]
   exact⟨_,_,rfl,xtr R hr.1 ht'.2 (dX R h1),xv0 R h2 hr.2 ht'.1⟩
  ·cases h
theorem xk8 {E:Env} {a:Act} {w:World} (R:Rel cx E σ a w) {as:List Operand} {xs:List X} (hxs:vF as=some xs) {ys:List V} (hok:V.ressOk σ (xs.map (X.ev σ))) (ht:pK (xs.map (X.ev σ))) (hs:Subs (V.lows (V.ress σ [] (xs.map (X.ev σ)))) ys):
  ∃S:Nat→Prop,(∀b,S b→b<w.heap.size)∧RdTs (lY S) w ys (as.map a.eval)∧(V.pures (xs.map (X.ev σ))=true→∀b,S b→E.B b):=by
 cases hp:V.pures (xs.map (X.ev σ)) with
 |true=>
  refine⟨E.B,R.lt,?_,fun _ _ h=>h⟩;rw [V.ress_pure σ [] _ hp] at hs;exact hs.rd (xir (E:=E) (E0:=lY E.B) (fun _ h=>h) hp (yD R hxs))
 |false=>exact⟨fun b=>b<w.heap.size,fun _ h=>h,hs.rd (xv0 R hxs hok ht),fun h=>by cases h⟩
def yS (ws:List V) (x:V) (obs:List Ob):Prop:=V.pures ws=true∨(x.fresh=true∧∀o∈obs,o.v.fresh=true)
theorem Rel.backC {E:Env} {a:Act} {w w':World} (R:Rel cx E σ a w) {S:Nat→Prop} {ws:List V} (hS:V.pures ws=true→∀b,S b→E.B b) {x:V} {obs:List Ob} (hq:yS ws x obs) {v:Value} (h:ResOk w w' S x obs v):
  ∃E',Leads E w E' w'∧RdT E' w' (x.shift σ.ob.length) v∧Rel cx E' {σ with ob:=σ.ob++obs.map (Ob.shift σ.ob.length)} a w':=by
 rcases hq with hq|hq
 ·exact R.back (hS hq) h
 ·exact R.back (S:=fun _=>False) (fun _ h=>h.elim) (h.fresh hq.1 hq.2)
theorem xn7 {f : FuncId} {fn : Func} (hf : P.funcs[f]? = some fn) (hb : fn.body.isSome = true) (hnm : (fn.name != "runtime.NumGoroutine") = true) (args : Array Value) (w : World) : (callFunc f args).run P w = .ok (.enter f args) w := by
 have hb':fn.body.isNone=false:=by cases h:fn.body<;>simp_all
 have hn : (fn.name == "runtime.NumGoroutine") = false := by simpa using hnm
 simp only [callFunc,Sem.run_bind,run_program,Result.andThen_ok,hf,hn,hb',Bool.false_eq_true,if_false,Sem.run_pure]
theorem yko {d:Option Nat} {gd:Option (Nat×Bool)} {f:FuncId} {xs:List X} {l:List RO} (ys:List V) (R0:V→List Ob→Prop) (hF:Fnc P f ys R0) (hw:bQ σ gd=some true) (hok:V.ressOk σ (xs.map (X.ev σ))) (ht:pK (xs.map (X.ev σ)))
  (hs:Subs (V.lows (V.ress σ [] (xs.map (X.ev σ)))) ys) (hq:∀x obs,R0 x obs→yS (xs.map (X.ev σ)) x obs) (h:∀x obs,R0 x obs→EvR P cx N Q k l (AS.put {σ with ob:=σ.ob++obs.map (Ob.shift σ.ob.length)} d (x.shift σ.ob.length))):EvR P cx N Q k (⟨d,gd,.call f xs⟩::l) σ:=by
 refine⟨fun hn E a w R ops os hcc=>?_⟩;obtain⟨o,os',rfl,h1,h2⟩:=kX hcc;obtain⟨k1,k2,k3,k4⟩:=kY h1;unfold wpList;rw [if_pos (uH R k2 hw)];refine .inl ?_;have k1:rU P o.op=some (.call f xs):=k1;unfold rU at k1;split at k1
 ·cases k1
 split at k1
 ·cases k1
 split at k1
 ·rename_i f' as ats e1
  split at k1
  ·rename_i fn hfn
   split at k1
   ·rename_i hcnd
    simp only [Bool.and_eq_true] at hcnd;simp only [Option.map_eq_some_iff,RK.call.injEq] at k1;obtain⟨ys',hys,rfl,rfl⟩:=k1;have hr:(execOp a.eval o).run P w=.ok (.enter f' (as.map a.eval)) w:=by
     simp only [execOp,e1,resolve,Act.eval,Deferred.ofValue,Sem.run_bind,Sem.run_pure,Result.andThen_ok,invoke];rw [xn7 hfn hcnd.1 hcnd.2];simp
    unfold Oper.wp;rw [hr,Oper.upon_enter];obtain⟨S,hS,hargs,hSp⟩:=xk8 R hys hok ht hs;have hC:=hF w S _ hS hargs;have e2:(as.toList.map a.eval).toArray=as.map a.eval:=by rw [←Array.toList_map,Array.toArray_toList]
    rw [e2] at hC;refine hC.mono ?_
    rintro e w' ⟨x,obs,v,hx,rfl,hres⟩
    obtain⟨E',_,hx',R'⟩:=R.backC hSp (hq x obs hx) hres;show wpList P ops (lT P cx N Q k) os' (a.put o.dst v) w';rw [show o.dst=d from k3];exact(h x obs hx).h (by rw [AS.put_n];exact hn) E' _ w' (R'.put (fun i hi=>by show i<σ.n;rw [hn];exact k4 i hi) hx') ops os' h2
   ·cases k1
  ·cases k1
 ·simp at k1
 ·cases k1
def xdo:V→Option (FuncId×List V)
 | .fn f=>some (f,[])
 | .clo (.fn f) cs=>some (f,cs)
 |_=>none
def okF (P:Program) (f:FuncId):Bool:=match P.funcs[f]? with
 | some fn => fn.body.isSome && fn.name != "runtime.NumGoroutine"
 |none=>false
theorem RdTs.app {E:Env} {w:World}:∀{l m:List V} {vs us:List Value},RdTs E w l vs→RdTs E w m us→RdTs E w (l++m) (vs++us)
 |[],m,vs,us,h,k=>by simp only [RdTs] at h;subst h;exact k
 |x::l,m,vs,us,h,k=>by
  simp only [RdTs,List.cons_append] at h⊢;obtain⟨v,ys,rfl,h1,h2⟩:=h;exact⟨v,ys++us,rfl,h1,h2.app k⟩
theorem yax:∀{l:List V},pK l→V.noTups l=true
 |[],_=>rfl
 |x::l,h=>by cases x<;>simp only [pK,V.noTups] at h⊢<;>exact yax h
theorem xub {E:Env} {w:World} {x:V} {v:Value} {f:FuncId} {cs:List V} (h:xdo x=some (f,cs)) (hr:RdT E w x v):∃us,v=.func (.func f) #[] us.toArray∧RdTs E w cs us:=by
 unfold xdo at h;split at h
 ·obtain⟨rfl,rfl⟩:=Prod.mk.inj (Option.some.inj h)
  simp only [RdT,RdV,List.cons.injEq,and_true] at hr;exact⟨[],by simpa using hr,by simp only [RdTs]⟩
 ·obtain⟨rfl,rfl⟩:=Prod.mk.inj (Option.some.inj h)
  simpa only [RdT,CK.ok] using hr
 ·cases h
theorem xua {E:Env} {a:Act} {w:World} (R:Rel cx E σ a w) {ws:List V} {vs:List Value} (hr:RdTs E w ws vs) {ys:List V} (hok:V.ressOk σ ws) (ht:pK ws) (hs:Subs (V.lows (V.ress σ [] ws)) ys):
  ∃S:Nat→Prop,(∀b,S b→b<w.heap.size)∧RdTs (lY S) w ys vs∧(V.pures ws=true→∀b,S b→E.B b):=by
 cases hp:V.pures ws with
 |true=>
  refine⟨E.B,R.lt,?_,fun _ _ h=>h⟩;rw [V.ress_pure σ [] _ hp] at hs;exact hs.rd (xir (E:=E) (E0:=lY E.B) (fun _ h=>h) hp hr)
 |false=>exact⟨fun b=>b<w.heap.size,fun _ h=>h,hs.rd (xo0 R hok (yax ht) hr),fun h=>by cases h⟩
theorem xuw {o:Oper} {x:X} {xs:List X} (h:rU P o.op=some (.callv x xs)):∃i as ats,o.op=.call {callee:=.value (.tmp i),args:=as,argTypes:=ats}∧x=.t i∧vF as.toList=some xs:=by
 unfold rU at h;split at h
 ·cases h
 split at h
 ·cases h
 split at h
 ·split at h
  ·split at h
   ·simp at h
   ·cases h
  ·cases h
 ·rename_i i as ats e1
  simp only [Option.map_eq_some_iff,RK.callv.injEq] at h;obtain⟨ys,h1,h2,h3⟩:=h;subst h3;exact⟨i,as,ats,e1,h2.symm,h1⟩
 ·cases h
theorem ykr {d:Option Nat} {gd:Option (Nat×Bool)} {x0:X} {xs:List X} {l:List RO} {f:FuncId} {cs:List V} (ys:List V) (R0:V→List Ob→Prop) (hF:Fnc P f ys R0) (hf:okF P f=true) (hv:xdo (x0.ev σ)=some (f,cs)) (hw:bQ σ gd=some true) (hok:V.ressOk σ (xs.map (X.ev σ)++cs)) (ht:pK (xs.map (X.ev σ)++cs))
  (hs:Subs (V.lows (V.ress σ [] (xs.map (X.ev σ)++cs))) ys) (hq:∀x obs,R0 x obs→yS (xs.map (X.ev σ)++cs) x obs) (h:∀x obs,R0 x obs→EvR P cx N Q k l (AS.put {σ with ob:=σ.ob++obs.map (Ob.shift σ.ob.length)} d (x.shift σ.ob.length))):EvR P cx N Q k (⟨d,gd,.callv x0 xs⟩::l) σ:=by
 refine⟨fun hn E a w R ops os hcc=>?_⟩;obtain⟨o,os',rfl,h1,h2⟩:=kX hcc;obtain⟨k1,k2,k3,k4⟩:=kY h1;unfold wpList;rw [if_pos (uH R k2 hw)];refine .inl ?_;obtain⟨i,as,ats,e1,rfl,hxs⟩:=xuw (o:=o) k1;obtain⟨us,hu,hus⟩:=xub hv (R.tm i);unfold okF at hf;split at hf
 ·rename_i fn hfn
  simp only [Bool.and_eq_true] at hf;have hr:(execOp a.eval o).run P w=.ok (.enter f (as.map a.eval++us.toArray)) w:=by
   simp only [execOp,e1,resolve,Act.eval,hu,Deferred.ofValue,Sem.run_bind,Sem.run_pure,Result.andThen_ok,invoke];rw [xn7 hfn hf.1 hf.2];simp
  unfold Oper.wp;rw [hr,Oper.upon_enter];obtain⟨S,hS,hargs,hSp⟩:=xua R ((yD R hxs).app hus) hok ht hs;have hC:=hF w S _ hS hargs;have e2:(as.toList.map a.eval++us).toArray=as.map a.eval++us.toArray:=by
   rw [←Array.toList_map];simp
  rw [e2] at hC;refine hC.mono ?_
  rintro e w' ⟨x,obs,v,hx,rfl,hres⟩
  obtain⟨E',_,hx',R'⟩:=R.backC hSp (hq x obs hx) hres;show wpList P ops (lT P cx N Q k) os' (a.put o.dst v) w';rw [show o.dst=d from k3];exact(h x obs hx).h (by rw [AS.put_n];exact hn) E' _ w' (R'.put (fun i hi=>by show i<σ.n;rw [hn];exact k4 i hi) hx') ops os' h2
 ·cases hf
end
end Rdn.Dp
namespace Rdn.Dp
open Go Go.RowKit Rdn
section
variable (P:Program)
def xkh:ResultVar→Option POp
 | .tmp t=>some (.mov (.t t))
 | .cell a T=>match P.underlying T,P.info? T with
  |some d,some i=>some (.load (tN d) i.size (.t a))
  |_,_=>none
def xes:List ResultVar→Option (List POp)
 |[]=>some []
 |r::l=>match xkh P r,xes l with
  |some m,some ms=>some (m::ms)
  |_,_=>none
def gU (f:FuncId):Option (Nat×MC×List POp):=match P.funcs[f]? with
 |some fn=>match fn.body with
  |some c=>match comp P fn.ntmps c,xes P fn.results.toList with
   |some m,some rs=>some (fn.ntmps,m,rs)
   |_,_=>none
  |none=>none
 |none=>none
end
def xan (σ:AS):List POp→List V×Prop
 |[]=>([],True)
 |m::ms=>((iF σ m).1::(xan σ ms).1,(iF σ m).2∧(xan σ ms).2)
def nK (σ:AS):List POp→V×Prop
 |[m]=>iF σ m
 |ms=>(.tup (xan σ ms).1,(xan σ ms).2)
def ents:Nat→List V→List (Nat×V)
 |_,[]=>[]
 |i,x::l=>(i,x)::ents (i+1) l
section
variable {P:Program} {cx:Cx} {E:Env} {σ:AS} {a:Act} {w:World}
theorem ytl (R:Rel cx E σ a w) {r:ResultVar} {m:POp} (hc:xkh P r=some m) (h:(iF σ m).2):
  ∃z,(match r with| .tmp t=>pure (a.tmps.getD t undef)| .cell b T=>do loadVar T (←asAddr (a.tmps.getD b undef)):Sem Value).run P w=.ok z w∧RdT E w (iF σ m).1 z:=by
 cases r with
 |tmp t=>
  simp only [xkh,Option.some.injEq] at hc;subst hc;exact⟨_,rfl,R.tm t⟩
 |cell b T=>
  simp only [xkh] at hc;split at hc
  ·rename_i h1 h2
   cases hc;obtain⟨z,k1,k2⟩:=xxu (P:=P) R h1 h2 (R.tm b) h;refine⟨z,?_,k2⟩;have key:∀p:Value,(Instr.loadAt T p).run P w=.ok z w→(do loadVar T (←asAddr p):Sem Value).run P w=.ok z w:=by
    intro p hp;cases p with
    |pointer q=>
     cases q with
     |none=>simp [Instr.loadAt,Instr.sureAddr] at hp
     |some q=>simpa [Instr.loadAt,Instr.sureAddr,asAddr] using hp
    |_=>simp [Instr.loadAt,Instr.sureAddr] at hp
   exact key _ k1
  ·cases hc
theorem yda (R:Rel cx E σ a w):∀{l:List ResultVar} {ms:List POp},xes P l=some ms→(xan σ ms).2→
  ∃zs,(l.mapM fun r=>(match r with| .tmp t=>pure (a.tmps.getD t undef)| .cell b T=>do loadVar T (←asAddr (a.tmps.getD b undef)):Sem Value)).run P w=.ok zs w∧RdTs E w (xan σ ms).1 zs∧zs.length=l.length∧ms.length=l.length
 |[],ms,hc,_=>by
  simp only [xes,Option.some.injEq] at hc;subst hc;exact⟨[],by simp,by simp [xan,RdTs],rfl,rfl⟩
 |r::l,ms,hc,h=>by
  simp only [xes] at hc;split at hc
  ·rename_i m ms' h1 h2
   cases hc;simp only [xan] at h⊢;obtain⟨z,k1,k2⟩:=ytl R h1 h.1;obtain⟨zs,k3,k4,k5,k6⟩:=yda R h2 h.2;refine⟨z::zs,?_,?_,by simp [k5],by simp [k6]⟩
   ·rw [List.mapM_cons]
    simp only [Sem.run_bind,k1,Result.andThen_ok,k3,Sem.run_pure]
   ·simp only [RdTs]
    exact⟨z,zs,rfl,k2,k4⟩
  ·cases hc
theorem xfk (R:Rel cx E σ a w) {fn:Func} {rs:List POp} (hc:xes P fn.results.toList=some rs) (h:(nK σ rs).2):∃v,(results fn a.tmps).run P w=.ok v w∧RdT E w (nK σ rs).1 v:=by
 have hall:(xan σ rs).2:=by
  unfold nK at h;split at h
  ·exact⟨h,trivial⟩
  ·exact h
 obtain⟨zs,k1,k2,k3,k4⟩:=yda R hc hall;have hrun:(results fn a.tmps).run P w=.ok (if h:zs.toArray.size=1 then zs.toArray[0] else .tuple zs.toArray) w:=by
  unfold results;rw [Array.mapM_eq_mapM_toList];simp only [Sem.run_bind,Sem.run_map];have:∀(g g':ResultVar→Sem Value),g=g'→(List.mapM g fn.results.toList).run P w=(List.mapM g' fn.results.toList).run P w:=fun g g' e=>by rw [e]
  rw [this _ (fun r=>(match r with| .tmp t=>pure (a.tmps.getD t undef)| .cell b T=>do loadVar T (←asAddr (a.tmps.getD b undef)):Sem Value)) (by funext r;cases r<;>rfl),k1];simp
 refine⟨_,hrun,?_⟩;unfold nK;split
 ·rename_i m
  simp only [xan,RdTs] at k2;obtain⟨v,ys,rfl,k5,rfl⟩:=k2;simpa using k5
 ·rename_i hne
  have:¬zs.toArray.size=1:=by
   intro e;simp at e;have:rs.length=1:=ω;obtain⟨m,rfl⟩:=List.length_eq_one_iff.1 this;exact hne m rfl
  rw [dif_neg this];simp only [RdT];exact⟨zs,rfl,k2⟩
def post (P:Program) (f:FuncId) (W:World) (S:Nat→Prop) (R0:V→List Ob→Prop):Exit→Act→World→Prop:=fun e a w=>
 ∀fn,P.funcs[f]?=some fn→bodyPost P fn (fun e w'=>∃x obs v,R0 x obs∧e=.returned v∧ResOk W w' S x obs v) e a w
theorem ykm {f:FuncId} {W:World} {S:Nat→Prop} {R0:V→List Ob→Prop} {n N:Nat} {m:MC} {rs:List POp} {k:List It} (hc:gU P f=some (n,m,rs)) (ids:List Nat) (hv:(nK σ rs).2) (ho:vP σ ids) (hp:V.resOk σ (nK σ rs).1)
  (h:R0 ((nK σ rs).1.res σ ids) (yX σ ids)):Ev P ⟨W,fun _=>False,S⟩ N (post P f W S R0) (.code .ret::k) σ:=by
 refine xgb fun E a w R fn hfn=>?_;unfold gU at hc;rw [hfn] at hc;simp only at hc;split at hc
 ·split at hc
  ·rename_i h1 h2
   simp only [Option.some.injEq,Prod.mk.injEq] at hc;obtain⟨_,_,rfl⟩:=hc;obtain⟨v,k1,k2⟩:=xfk R h2 hv;exact bodyPost_ret k1 R.df ⟨_,_,v,h,rfl,R.out ho k2 hp⟩
  ·cases hc
 ·cases hc
theorem ykn {f:FuncId} {W:World} {S:Nat→Prop} {R0:V→List Ob→Prop} {n N:Nat} {m:MC} {rs:List POp} {k:List It} (hc:gU P f=some (n,m,rs)) (hv:(nK σ rs).2) {r g:Nat} {T:TypeId} {c:V} (hx:(nK σ rs).1=.ptr r g [] 0) (h0:σ.ob[r]?=some ⟨.box false T,true,g,c⟩) (hp:c.pure=true)
  (h:R0 (.ptr 0 0 [] 0) [⟨.box false T,true,0,c⟩]):Ev P ⟨W,fun _=>False,S⟩ N (post P f W S R0) (.code .ret::k) σ:=by
 refine xgb fun E a w R fn hfn=>?_;unfold gU at hc;rw [hfn] at hc;simp only at hc;split at hc
 ·split at hc
  ·rename_i h1 h2
   simp only [Option.some.injEq,Prod.mk.injEq] at hc;obtain⟨_,_,rfl⟩:=hc;obtain⟨v,k1,k2⟩:=xfk R h2 hv;rw [hx] at k2;exact bodyPost_ret k1 R.df ⟨_,_,v,h,rfl,R.outP h0 hp k2⟩
  ·cases hc
 ·cases hc
theorem xhg:∀(xs:List V) (i j:Nat),aV (ents i xs) j=if i≤j then xs.getD (j-i) .junk else .junk
 |[],i,j=>by simp [ents,aV]
 |x::xs,i,j=>by
  simp only [ents,aV];split
  ·rename_i e;subst e;simp
  ·rename_i e
   rw [xhg xs (i+1) j];by_cases h:i+1≤j
   ·rw [if_pos h,if_pos ω,show j-i=(j-(i+1))+1 by omega]
    simp
   ·rw [if_neg h,if_neg ω]
theorem xjn {E:Env} {w:World}:∀{xs:List V} {vs:List Value} (j:Nat),RdTs E w xs vs→RdT E w (xs.getD j .junk) (vs.getD j undef)
 |[],vs,j,h=>by simp only [List.getD_nil,RdT]
 |x::xs,vs,j,h=>by
  simp only [RdTs] at h;obtain⟨v,ys,rfl,h1,h2⟩:=h;cases j with
  |zero=>simpa using h1
  |succ j=>simpa using xjn j h2
theorem xhc {E:Env} {w:World}:∀{xs:List V} {vs:List Value},RdTs E w xs vs→vs.length=xs.length
 |[],vs,h=>by simp only [RdTs] at h;simp [h]
 |x::xs,vs,h=>by
  simp only [RdTs] at h;obtain⟨v,ys,rfl,h1,h2⟩:=h;simp [xhc h2]
theorem Fnc.intro {f:FuncId} {n:Nat} {m:MC} {rs:List POp} {xs:List V} {R0:V→List Ob→Prop} (hc:gU P f=some (n,m,rs)) (hx:xs.length≤n)
  (h:∀W S,Ev P ⟨W,fun _=>False,S⟩ n (post P f W S R0) [.code m] ⟨n,ents 0 xs,[]⟩):Fnc P f xs R0:=by
 intro W S vs hS hvs;have hc':=hc;unfold gU at hc;split at hc
 ·rename_i fn hfn
  split at hc
  ·rename_i c hb
   split at hc
   ·rename_i h1 h2
    simp only [Option.some.injEq,Prod.mk.injEq] at hc;obtain⟨rfl,rfl,rfl⟩:=hc;refine calls_of_wp hfn hb ?_;have hl:=xhc hvs;have L:Leads (lY S) W ⟨S,fun b=>W.heap.size≤b,[]⟩ W:=⟨fun b hb=>⟨hb,rfl⟩,fun _ h=>h.elim,by simp [lY],fun r g u hr=>by simp [lY] at hr⟩;have R:Rel ⟨W,fun _=>False,S⟩ ⟨S,fun b=>W.heap.size≤b,[]⟩ ⟨fn.ntmps,ents 0 xs,[]⟩ {tmps:=vs.toArray++Array.replicate (fn.ntmps-vs.toArray.size) undef,defers:=[]} W:=by
     refine⟨rfl,by simp [hl];omega,fun j=>?_,rfl,fun r o hr=>by simp at hr,fun r r' o o' g g' u u' b _ hr=>by simp at hr,hS,fun b=>Iff.rfl,fun b hb _=>hb,Keep.refl _ _⟩;rw [xhg,if_pos (Nat.zero_le _),Nat.sub_zero];have:=(xjn j hvs).mono L;by_cases hj:j<vs.length
     ·have e:(vs.toArray++Array.replicate (fn.ntmps-vs.toArray.size) undef).getD j undef=vs.getD j undef:=by
       simp [Array.getD_eq_getD_getElem?,Array.getElem?_append,hj]
      rw [e];exact this
     ·have e:xs.getD j .junk=.junk:=by simp [List.getD_eq_getElem?_getD,List.getElem?_eq_none (show xs.length≤j by omega)]
      simp only;rw [e];simp only [RdT]
    have:=(h W S).h rfl _ _ _ R;rw [rP] at this;refine wp_mono (this c h1) fun e a w hq=>?_;cases e with
    |normal=>simp only [lT,oH] at hq;exact hq fn hfn
    |exit id=>simp only [lT,pG] at hq;exact hq fn hfn
    |goto l=>exact hq fn hfn
    |ret=>exact hq fn hfn
    |panic c=>exact hq fn hfn
    |outgrown=>exact hq fn hfn
   ·cases hc
  ·cases hc
 ·cases hc
end
end Rdn.Dp
namespace Rdn.Dp
open Go Go.RowKit Rdn
def ifW (w:Option Bool) (A B:Prop):Prop:=match w with
 |some true=>A
 |some false=>B
 |none=>False
def mD (C:List RO→AS→Prop):List Unit→List RO→AS→Prop
 |[],l,σ=>C l σ
 |_::_,[],σ=>C [] σ
 |_::fu,⟨d,gd,.p m⟩::l,σ=>ifW (bQ σ gd) ((iF σ m).2∧mD C fu l (σ.put d (iF σ m).1)) (mD C fu l (σ.put d (.tup [])))
 |_::fu,⟨d,gd,.m m⟩::l,σ=>ifW (bQ σ gd) ((qN σ m).2∧bQ (qN σ m).1 gd=some true∧(dV (qN σ m).1 m).2.2∧(dV (qN σ m).1 m).2.1.n=(qN σ m).1.n∧mD C fu l ((dV (qN σ m).1 m).2.1.put d (dV (qN σ m).1 m).1)) (mD C fu l (σ.put d (.tup [])))
 |_::_,⟨d,gd,.call f xs⟩::l,σ=>C (⟨d,gd,.call f xs⟩::l) σ
 |_::_,⟨d,gd,.callv x xs⟩::l,σ=>C (⟨d,gd,.callv x xs⟩::l) σ
def doP (E:List RO→AS→Prop) (r:V×Prop) (d:Option Nat) (l:List RO) (σ:AS):Prop:=r.2∧E l (σ.put d r.1)
def doM (E:List RO→AS→Prop) (r:V×AS×Prop) (d:Option Nat) (l:List RO) (n:Nat):Prop:=r.2.2∧r.2.1.n=n∧E l (r.2.1.put d r.1)
def doC (E:List RO→AS→Prop) (p:AS×Prop) (gd:Option (Nat×Bool)) (m:MOp) (d:Option Nat) (l:List RO):Prop:=p.2∧bQ p.1 gd=some true∧doM E (dV p.1 m) d l p.1.n
def doG (E:List RO→AS→Prop) (w:Option Bool) (gd:Option (Nat×Bool)) (o:RK) (d:Option Nat) (l:List RO) (σ:AS):Prop:=ifW w (match o with| .p m=>doP E (iF σ m) d l σ| .m m=>doC E (qN σ m) gd m d l| .call _ _=>False| .callv _ _=>False) (E l (σ.put d (.tup [])))
theorem yk4 (C:List RO→AS→Prop) (l:List RO) (σ:AS):mD C [] l σ=C l σ:=rfl
theorem yk2 (C:List RO→AS→Prop) (u:Unit) (fu:List Unit) (σ:AS):mD C (u::fu) [] σ=C [] σ:=rfl
theorem yk3 (C:List RO→AS→Prop) (u:Unit) (fu:List Unit) (d:Option Nat) (gd:Option (Nat×Bool)) (f:FuncId) (xs:List X) (l:List RO) (σ:AS):mD C (u::fu) (⟨d,gd,.call f xs⟩::l) σ=C (⟨d,gd,.call f xs⟩::l) σ:=rfl
theorem yk9 (C:List RO→AS→Prop) (u:Unit) (fu:List Unit) (d:Option Nat) (gd:Option (Nat×Bool)) (x:X) (xs:List X) (l:List RO) (σ:AS):mD C (u::fu) (⟨d,gd,.callv x xs⟩::l) σ=C (⟨d,gd,.callv x xs⟩::l) σ:=rfl
theorem yk8 (C:List RO→AS→Prop) (u:Unit) (fu:List Unit) (d:Option Nat) (m:POp) (l:List RO) (σ:AS):mD C (u::fu) (⟨d,none,.p m⟩::l) σ=doP (mD C fu) (iF σ m) d l σ:=rfl
theorem yk7 (C:List RO→AS→Prop) (u:Unit) (fu:List Unit) (d:Option Nat) (m:MOp) (l:List RO) (σ:AS):mD C (u::fu) (⟨d,none,.m m⟩::l) σ=doC (mD C fu) (qN σ m) none m d l:=rfl
theorem yj2 (E:List RO→AS→Prop) (σ:AS) (gd:Option (Nat×Bool)) (m:MOp) (d:Option Nat) (l:List RO):doC E (σ,True) gd m d l=(bQ σ gd=some true∧doM E (dV σ m) d l σ.n):=by simp [doC]
theorem yj3 (E:List RO→AS→Prop) (σ:AS) (c:Prop) (gd:Option (Nat×Bool)) (m:MOp) (d:Option Nat) (l:List RO):doC E (σ,c) gd m d l=(c∧bQ σ gd=some true∧doM E (dV σ m) d l σ.n):=rfl
theorem yxm (σ:AS):(bQ σ none=some true)=True:=by simp [bQ]
theorem yk6 (C:List RO→AS→Prop) (u:Unit) (fu:List Unit) (d:Option Nat) (g:Nat×Bool) (m:POp) (l:List RO) (σ:AS):mD C (u::fu) (⟨d,some g,.p m⟩::l) σ=doG (mD C fu) (bQ σ (some g)) (some g) (.p m) d l σ:=rfl
theorem yk5 (C:List RO→AS→Prop) (u:Unit) (fu:List Unit) (d:Option Nat) (g:Nat×Bool) (m:MOp) (l:List RO) (σ:AS):mD C (u::fu) (⟨d,some g,.m m⟩::l) σ=doG (mD C fu) (bQ σ (some g)) (some g) (.m m) d l σ:=rfl
theorem yj4 (E:List RO→AS→Prop) (gd:Option (Nat×Bool)) (o:RK) (d:Option Nat) (l:List RO) (σ:AS):doG E (some false) gd o d l σ=E l (σ.put d (.tup [])):=rfl
theorem yj6 (E:List RO→AS→Prop) (gd:Option (Nat×Bool)) (m:POp) (d:Option Nat) (l:List RO) (σ:AS):doG E (some true) gd (.p m) d l σ=doP E (iF σ m) d l σ:=rfl
theorem yj5 (E:List RO→AS→Prop) (gd:Option (Nat×Bool)) (m:MOp) (d:Option Nat) (l:List RO) (σ:AS):doG E (some true) gd (.m m) d l σ=doC E (qN σ m) gd m d l:=rfl
theorem yj9 (E:List RO→AS→Prop) (x:V) (c:Prop) (i:Nat) (l:List RO) (n:Nat) (t:List (Nat×V)) (ob:List Ob):doP E (x,c) (some i) l ⟨n,t,ob⟩=(c∧E l ⟨n,(i,x)::t,ob⟩):=rfl
theorem yj8 (E:List RO→AS→Prop) (x:V) (c:Prop) (i:Nat) (l:List RO) (n:Nat) (t:List (Nat×V)) (ob:List Ob):doM E (x,⟨n,t,ob⟩,c) (some i) l n=(c∧E l ⟨n,(i,x)::t,ob⟩):=by simp [doM,AS.put]
theorem yj7 (E:List RO→AS→Prop) (x:V) (c:Prop) (l:List RO) (n:Nat) (t:List (Nat×V)) (ob:List Ob):doM E (x,⟨n,t,ob⟩,c) none l n=(c∧E l ⟨n,t,ob⟩):=by simp [doM,AS.put]
theorem xl6 {w:Option Bool} {A B:Prop} (h:ifW w A B):(w=some true∧A)∨(w=some false∧B):=by
 unfold ifW at h;split at h
 ·exact .inl ⟨rfl,h⟩
 ·exact .inr ⟨rfl,h⟩
 ·exact h.elim
theorem ykv {P:Program} {cx:Cx} {N:Nat} {Q:Exit→Act→World→Prop} {k:List It} {σ:AS} {d:Option Nat} {gd:Option (Nat×Bool)} {m:MOp} {l:List RO} (hk:(qN σ m).2) (hw:bQ (qN σ m).1 gd=some true) (hc:(dV (qN σ m).1 m).2.2) (hnn:(dV (qN σ m).1 m).2.1.n=(qN σ m).1.n) (h:EvR P cx N Q k l ((dV (qN σ m).1 m).2.1.put d (dV (qN σ m).1 m).1)):EvR P cx N Q k (⟨d,gd,.m m⟩::l) σ:=by
 have h1:=yku (d:=d) hw hc hnn h;refine⟨fun hn E a w R=>?_⟩;obtain⟨E',R',hn'⟩:=R.calmO hk;exact h1.h (hn'.trans hn) E' a w R'
theorem dH {P:Program} {cx:Cx} {N:Nat} {Q:Exit→Act→World→Prop} {k:List It}:∀{fu:List Unit} {l:List RO} {σ:AS},mD (EvR P cx N Q k) fu l σ→EvR P cx N Q k l σ
 |[],l,σ,h=>h
 |_::_,[],σ,h=>h
 |_::fu,⟨d,gd,.p m⟩::l,σ,h=>by
  rcases xl6 h with ⟨hw,h⟩|⟨hw,h⟩
  ·exact xew hw h.1 (dH h.2)
  ·exact xex hw (dH h)
 |_::fu,⟨d,gd,.m m⟩::l,σ,h=>by
  rcases xl6 h with ⟨hw,h⟩|⟨hw,h⟩
  ·exact ykv h.1 h.2.1 h.2.2.1 h.2.2.2.1 (dH h.2.2.2.2)
  ·exact xex hw (dH h)
 |_::_,⟨d,gd,.call f xs⟩::l,σ,h=>h
 |_::_,⟨d,gd,.callv x xs⟩::l,σ,h=>h
theorem fQ {P:Program} {cx:Cx} {N:Nat} {Q:Exit→Act→World→Prop} {k:List It} {l:List RO} {σ:AS} (h:mD (EvR P cx N Q k) [(),(),(),(),(),(),(),()] l σ):Ev P cx N Q (.code (.reg l)::k) σ:=kZ (dH h)
theorem xpc {P:Program} {cx:Cx} {N:Nat} {Q:Exit→Act→World→Prop} {k:List It} {d:Option Nat} {gd:Option (Nat×Bool)} {m:POp} {l:List RO} {σ:AS} (h:mD (EvR P cx N Q k) [(),(),(),(),(),(),(),()] (⟨d,gd,.p m⟩::l) σ):EvR P cx N Q k (⟨d,gd,.p m⟩::l) σ:=dH h
theorem xpb {P:Program} {cx:Cx} {N:Nat} {Q:Exit→Act→World→Prop} {k:List It} {d:Option Nat} {gd:Option (Nat×Bool)} {m:MOp} {l:List RO} {σ:AS} (h:mD (EvR P cx N Q k) [(),(),(),(),(),(),(),()] (⟨d,gd,.m m⟩::l) σ):EvR P cx N Q k (⟨d,gd,.m m⟩::l) σ:=dH h
theorem zX {P:Program} {cx:Cx} {N:Nat} {Q:Exit→Act→World→Prop} {k:List It} {σ:AS} {x:X} {y z:MC} (hx:x.ev σ=.bool true) (h:Ev P cx N Q (.code y::k) σ):Ev P cx N Q (.code (.cond x y z)::k) σ:=xw4 hx (fun _=>h) (fun e=>by cases e)
theorem zW {P:Program} {cx:Cx} {N:Nat} {Q:Exit→Act→World→Prop} {k:List It} {σ:AS} {x:X} {y z:MC} (hx:x.ev σ=.bool false) (h:Ev P cx N Q (.code z::k) σ):Ev P cx N Q (.code (.cond x y z)::k) σ:=xw4 hx (fun e=>by cases e) (fun _=>h)
theorem bTF:(true==false)=false:=rfl
theorem bFT:(false==true)=false:=rfl
theorem aN {p:Prop} [Decidable p] (h:p):decide p=true:=decide_eq_true h
theorem aJ {p:Prop} [Decidable p] (h:¬p):decide p=false:=decide_eq_false h
theorem dB {a b:Int} (h:a=b):(a==b)=true:=by simp [h]
theorem dA {a b:Int} (h:a≠b):(a==b)=false:=by simp [h]
theorem dP {a b:Int} (h:a≠b):(a !=b)=true:=by simp [h]
theorem dO {a b:Int} (h:a=b):(a !=b)=false:=by simp [h]
section
variable {P:Program} {cx:Cx} {N:Nat} {Q:Exit→Act→World→Prop} {k:List It} {n:Nat} {t:List (Nat×V)} {ob:List Ob} {l:List RO} {gd:Option (Nat×Bool)}
theorem ye9 {i:Nat} {f:FuncId} {xs:List X} (ys:List V) {ws:List V} {R0:V→List Ob→Prop} (hF:Fnc P f ys R0) (hw:bQ ⟨n,t,ob⟩ gd=some true) (hx:xs.map (X.ev ⟨n,t,ob⟩)=ws) (hok:V.ressOk ⟨n,t,ob⟩ ws∧pK ws)
  (hs:Subs (V.lows (V.ress ⟨n,t,ob⟩ [] ws)) ys) (hq:∀x obs,R0 x obs→yS ws x obs) (h:∀x obs,R0 x obs→EvR P cx N Q k l ⟨n,(i,x.shift ob.length)::t,ob++obs.map (Ob.shift ob.length)⟩):EvR P cx N Q k (⟨some i,gd,.call f xs⟩::l) ⟨n,t,ob⟩:=by
 subst hx;exact yko ys R0 hF hw hok.1 hok.2 hs hq h
theorem yvi (t':List (Nat×V)) {ob':List Ob} (m:Nat) (ho:ob.take m=ob') (hm:m≤ob.length) (ht:∀x∈t',aV t x.1=aV t' x.1) (hs:∀x∈t',x.2.scp m=true) (hs':∀o∈ob',o.scp m=true) (h:Ev P cx N Q k ⟨n,t',ob'⟩):Ev P cx N Q k ⟨n,t,ob⟩:=by
 subst ho;exact ykj hm ht hs hs' h
theorem yvj {f:FuncId} {W:World} {S:Nat→Prop} {R0:V→List Ob→Prop} {n0:Nat} {m:MC} {rs:List POp} {y z:V} {c:Prop} {obs:List Ob} (hc:gU P f=some (n0,m,rs)) (ids:List Nat) (hv:nK ⟨n,t,ob⟩ rs=(y,c)) (hcc:c) (ho:vP ⟨n,t,ob⟩ ids) (hp:V.resOk ⟨n,t,ob⟩ y) (hz:y.res ⟨n,t,ob⟩ ids=z)
  (hobs:yX ⟨n,t,ob⟩ ids=obs) (h:R0 z obs):Ev P ⟨W,fun _=>False,S⟩ N (post P f W S R0) (.code .ret::k) ⟨n,t,ob⟩:=by
 subst hz hobs;exact ykm hc ids (by rw [hv];exact hcc) ho (by rw [hv];exact hp) (by rw [hv];exact h)
theorem Fnc.low {f:FuncId} {xs:List V} {R0:V→List Ob→Prop} (h:Fnc P f xs fun x obs=>R0 x.low (obs.map Ob.low)):Fnc P f xs R0:=fun w S vs hS hvs=>(h w S vs hS hvs).mono (by
 rintro e w' ⟨x,obs,v,h1,h2,h3⟩
 exact⟨_,_,v,h1,h2,h3.low⟩)
theorem Fnc.mono {f:FuncId} {xs:List V} {R0 R1:V→List Ob→Prop} (h:Fnc P f xs R0) (hR:∀x obs,R0 x obs→R1 x obs):Fnc P f xs R1:=fun w S vs hS hvs=>(h w S vs hS hvs).mono (by
 rintro e w' ⟨x,obs,v,h1,h2,h3⟩
 exact⟨x,obs,v,hR _ _ h1,h2,h3⟩)
theorem yvk {f:FuncId} {W:World} {S:Nat→Prop} {R0:V→List Ob→Prop} {n0:Nat} {m:MC} {rs:List POp} {r g:Nat} {T:TypeId} {d:V} {c:Prop} (hc:gU P f=some (n0,m,rs)) (hv:nK ⟨n,t,ob⟩ rs=(.ptr r g [] 0,c)) (hcc:c) (h0:ob[r]?=some ⟨.box false T,true,g,d⟩) (hp:d.pure=true)
  (h:R0 (.ptr 0 0 [] 0) [⟨.box false T,true,0,d⟩]):Ev P ⟨W,fun _=>False,S⟩ N (post P f W S R0) (.code .ret::k) ⟨n,t,ob⟩:=
 ykn hc (by rw [hv];exact hcc) (by rw [hv]) h0 hp h
theorem pW {i e s:Nat} (hi:aV t i=.nilS) (hs:0<s) (h:Ev P cx N Q k ⟨n,(i,.own ob.length 0)::t,ob++[⟨.row e,true,0,.arr s []⟩]⟩):Ev P cx N Q k ⟨n,t,ob⟩:=by
 refine⟨fun hn E a w R=>?_⟩;have hv:=R.tm i;have hv:RdT E w (aV t i) (a.tmps.getD i undef):=hv;rw [hi] at hv;simp only [RdT,RdV,List.cons.injEq,and_true] at hv;obtain⟨L,R'⟩:=R.new (w':=w) (o:=⟨.row e,true,0,.arr s []⟩) (u:=.slice none 0 0) (Below.refl _ _) (fun b hb=>by simp [aP] at hb) rfl rfl (by
  unfold OkO;exact⟨s,[],[],rfl,rfl,by simp [Unif],hs,by simp,World.ownsRow_nil _ _ _ _,by simp [RdL],fun b hb=>by simp [aP] at hb⟩)
 refine h.h hn _ a w ⟨R'.df,R'.n,fun j=>?_,R'.len,R'.ob,R'.sep,R'.lt,R'.fr,R'.old,R'.keep⟩;simp only [aV];split
 ·rename_i e;subst e
  rw [hv];simp only [RdT,RdV];refine⟨_,rfl,rfl,by simp [R.len],fun gc u h=>?_⟩;have hl:E.ref.length=ob.length:=R.len;rw [←hl,List.getElem?_append_right (Nat.le_refl _)] at h;simp at h;obtain⟨h1,h2⟩:=h;subst h1;exact⟨Nat.le_refl _,fun _=>h2⟩
 ·exact R'.tm j
end
theorem fF {α:Type} [Inhabited α] (f:α→V) (l:List α) (k:Nat) (h:k<l.length):(l.map f).getD k .junk=f (l[k]!):=by
 simp [List.getD_eq_getElem?_getD,h]
theorem bW {e:Int} (h0:-9223372036854775808≤e) (h1:e≤9223372036854775807):IntKind.i64.wrap e=e:=by simp [IntKind.wrap,IntKind.bits,IntKind.signed];omega
theorem xtd {e:Int} (h0:0≤e) (h1:e≤65535):IntKind.u16.wrap e=e:=by simp [IntKind.wrap,IntKind.bits,IntKind.signed];omega
theorem yp6 (e:Int):IntKind.u8.wrap e=e % 256:=by simp [IntKind.wrap,IntKind.bits,IntKind.signed]
theorem uD (e:Int):IntKind.u16.wrap e=e % 65536:=by simp [IntKind.wrap,IntKind.bits,IntKind.signed]
theorem yp4 (e:Int):IntKind.u32.wrap e=e % 4294967296:=by simp [IntKind.wrap,IntKind.bits,IntKind.signed]
theorem yp5 (e:Int):IntKind.u64.wrap e=e % 18446744073709551616:=by simp [IntKind.wrap,IntKind.bits,IntKind.signed]
theorem dU {e m:Int} (h0:0≤e) (h1:e<m):e % m=e:=Int.emod_eq_of_lt h0 h1
theorem fH {a b:Int} (h:0≤b):a.fdiv b=a / b:=Int.fdiv_eq_ediv_of_nonneg a h
theorem fM {a b:Int} (h:0≤a):a.tmod b=a % b:=Int.tmod_eq_emod_of_nonneg h
theorem fK {a b:Int} (h:0≤a):a.tdiv b=a / b:=Int.tdiv_eq_ediv_of_nonneg h
theorem jG {α:Type} [Inhabited α] {l:List α} {k:Nat} (h:k<l.length):l.take (k+1)=l.take k++[l[k]!]:=by
 rw [List.take_succ_eq_append_getElem h];simp [h]
theorem kE {α:Type} [Inhabited α] {l:List α} {k:Nat} (h:k<l.length):l[k]!∈l:=by
 rw [List.getElem!_eq_getElem?_getD,List.getElem?_eq_getElem h];exact List.getElem_mem h
theorem xry {α:Type} (f:α→V) (l:List α) (h:∀a,(f a).pure=true):V.pures (l.map f)=true:=pures_iff.2 fun x hx=>by obtain⟨a,_,rfl⟩:=List.mem_map.1 hx;exact h a
theorem xmu (l m:List V):V.pures (l++m)=(V.pures l && V.pures m):=by
 induction l with
 |nil=>simp [V.pures]
 |cons x l ih=>simp [V.pures,ih,Bool.and_assoc]
theorem xcq {α:Type} (f:α→V) (l:List α) (h:∀a,(f a).fresh=true):V.freshs (l.map f)=true:=freshs_iff.2 fun x hx=>by obtain⟨a,_,rfl⟩:=List.mem_map.1 hx;exact h a
theorem ynf {α:Type} (f g:α→V) (l:List α) (h:∀a,(f a).low=g a):V.lows (l.map f)=l.map g:=by rw [yO,List.map_map];exact List.map_congr_left fun a _=>h a
end Rdn.Dp
namespace Rdn.Dp
open Go Go.RowKit Rdn
mutual
theorem V.scp_pure (m:Nat):∀x:V,x.pure=true→x.scp m=true
 | .sl t s l,_=>rfl
 | .agg l,h=>by simp only [V.pure] at h;simp only [V.scp,V.scps_pure m l h]
 | .arr s l,h=>by simp only [V.pure] at h;simp only [V.scp,V.scps_pure m l h]
 | .tup l,h=>by simp [V.pure] at h
 | .clo f l,h=>by simp [V.pure] at h
 | .int k n,_=>rfl
 | .bool b,_=>rfl
 | .str s,_=>rfl
 | .nilS,_=>rfl
 | .own r g,h=>by simp [V.pure] at h
 | .ptr r g p o,h=>by simp [V.pure] at h
 | .osl r g s a b,h=>by simp [V.pure] at h
 | .rp x,h=>by simp [V.pure] at h
 | .fn f,_=>rfl
 | .lit f,_=>rfl
 | .junk,_=>rfl
theorem V.scps_pure (m:Nat):∀l:List V,V.pures l=true→V.scps m l=true
 |[],_=>rfl
 |x::l,h=>by simp only [V.pures,Bool.and_eq_true] at h;simp only [V.scps,V.scp_pure m x h.1,V.scps_pure m l h.2,Bool.and_self]
end
section
variable {E:Env} {w:World}
mutual
theorem RdV.scp:∀{x:V} {cs:List Value},RdV E w x cs→x.scp E.ref.length=true
 | .sl t s l,cs,h=>rfl
 | .agg l,cs,h=>by simp only [RdV] at h;simp only [V.scp];exact h.scp
 | .arr s l,cs,h=>by simp only [RdV] at h;simp only [V.scp];exact h.1.scp
 | .tup l,cs,h=>by simp only [RdV] at h
 | .clo f l,cs,h=>by simp only [RdV] at h
 | .int k n,cs,h=>rfl
 | .bool b,cs,h=>rfl
 | .str s,cs,h=>rfl
 | .nilS,cs,h=>rfl
 | .own r g,cs,h=>by simp only [RdV] at h;obtain⟨v,_,_,h3,_⟩:=h;simpa [V.scp] using h3
 | .ptr r g p o,cs,h=>by simp only [RdV] at h;obtain⟨v,_,_,h3,_⟩:=h;simpa [V.scp] using h3
 | .osl r g s a b,cs,h=>by simp only [RdV] at h;obtain⟨v,_,_,h3,_⟩:=h;simpa [V.scp] using h3
 | .rp x,cs,h=>by simp only [RdV] at h;simpa only [V.scp] using h.1
 | .fn f,cs,h=>rfl
 | .lit f,cs,h=>rfl
 | .junk,cs,h=>rfl
theorem RdL.scp:∀{l:List V} {cs:List Value},RdL E w l cs→V.scps E.ref.length l=true
 |[],cs,h=>rfl
 |a::l,cs,h=>by
  simp only [RdL] at h;obtain⟨c,ys,_,h1,h2⟩:=h;simp only [V.scps,h1.scp,h2.scp,Bool.and_self]
end
mutual
theorem RdT.scp:∀{x:V} {v:Value},RdT E w x v→x.scp E.ref.length=true
 | .sl t s l,cs,h=>rfl
 | .agg l,cs,h=>by simp only [RdT] at h;obtain⟨_,_,h⟩:=h;exact h.scp
 | .arr s l,cs,h=>by simp only [RdT] at h;obtain⟨_,_,h⟩:=h;exact h.scp
 | .tup l,cs,h=>by simp only [RdT] at h;obtain⟨_,_,h⟩:=h;simp only [V.scp];exact h.scp
 | .clo f l,cs,h=>by simp only [RdT] at h;obtain⟨_,_,h⟩:=h;simp only [V.scp];exact h.scp
 | .int k n,cs,h=>rfl
 | .bool b,cs,h=>rfl
 | .str s,cs,h=>rfl
 | .nilS,cs,h=>rfl
 | .own r g,cs,h=>by simp only [RdT] at h;exact h.scp
 | .ptr r g p o,cs,h=>by simp only [RdT] at h;exact h.scp
 | .osl r g s a b,cs,h=>by simp only [RdT] at h;exact h.scp
 | .rp x,cs,h=>by simp only [RdT] at h;exact h.scp
 | .fn f,cs,h=>rfl
 | .lit f,cs,h=>rfl
 | .junk,cs,h=>rfl
theorem RdTs.scp:∀{l:List V} {vs:List Value},RdTs E w l vs→V.scps E.ref.length l=true
 |[],cs,h=>rfl
 |a::l,cs,h=>by
  simp only [RdTs] at h;obtain⟨c,ys,_,h1,h2⟩:=h;simp only [V.scps,h1.scp,h2.scp,Bool.and_self]
end
end
section
variable {cx:Cx} {E E':Env} {σ:AS} {a:Act} {w w':World} {P:Program}
theorem OkO.scp {o:Ob} {u:Value} (h:OkO cx E w o u):o.scp E.ref.length=true:=by
 unfold OkO at h;unfold Ob.scp;split at h
 ·obtain⟨b,cs,_,_,h3,_⟩:=h
  exact h3.scp
 ·rfl
 ·obtain⟨_,s,l,xs,h1,_,_,_,_,h7,_⟩:=h
  rw [h1];simp only [V.scp];exact h7.scp
def kP:Ob:=⟨.row 0,true,0,.arr 1 []⟩
theorem Rel.place (R:Rel cx E σ a w) (L:Leads E w E' w') {o:Ob} (R':Rel cx E' {σ with ob:=σ.ob++[o]} a w') (hl:o.live=true) (hg:o.g=0) (ho:o.scp σ.ob.length=true) {r:Nat} (hr:σ.ob[r]?=some kP):
  ∃E'' u,E'.ref[σ.ob.length]?=some (0,u)∧E''.ref[r]?=some (1,u)∧Leads E w E'' w'∧Rel cx E'' {σ with ob:=σ.ob.set r {o with g:=1}} a w'∧∀x cs,x.pure=true→RdV E' w' x cs→RdV E'' w' x cs:=by
 obtain⟨u,hu,hok⟩:=R'.ob σ.ob.length o ξ;rw [hg] at hu;have hle:σ.ob.length≤E'.ref.length:=by rw [R'.len];simp
 have rl:r<σ.ob.length:=(List.getElem?_eq_some_iff.1 hr).1;have Rc:=R'.cut σ.ob.length ξ (fun i=>by have:=(R.tm i).scp;rwa [R.len] at this) (fun o' ho'=>by
  have ho':o'∈σ.ob:=by simpa using ho'
  obtain⟨j,hj,e⟩:=List.mem_iff_getElem.1 ho';obtain⟨u',_,k⟩:=R.ob j o' (by rw [List.getElem?_eq_getElem hj,e]);have:=k.scp
  rwa [R.len] at this)
 have Rc:Rel cx {E' with ref:=E'.ref.take σ.ob.length} σ a w':=by
  have e:(σ.ob++[o]).take σ.ob.length=σ.ob:=by simp
  simp only [e] at Rc;exact Rc
 have hokc:=hok.cut (m:=σ.ob.length) hle ho;have Lc:Leads E w {E' with ref:=E'.ref.take σ.ob.length} w':=⟨L.b,L.f,by simp only [List.length_take,R.len];omega,fun q g v hq h=>by
  refine L.ref q g v hq ?_;rw [List.getElem?_take] at h;split at h
  ·exact h
  ·cases h⟩
 have fr:∀q:Nat,q≠σ.ob.length→∀x,(E'.ref.take σ.ob.length)[q]?=some x→E'.ref[q]?=some x:=by
  intro q _ x h;rw [List.getElem?_take] at h;split at h
  ·exact h
  ·cases h
 obtain⟨u0,k1,k2⟩:=Rc.ob r kP hr;generalize hEc:({E' with ref:=E'.ref.take σ.ob.length}:Env)=Ec at *;have hB:Ec.B=E'.B:=by rw [←hEc]
 have hrr:Ec.ref=E'.ref.take σ.ob.length:=by rw [←hEc]
 have hrl:r<Ec.ref.length:=(List.getElem?_eq_some_iff.1 k1).1;have k1:Ec.ref[r]?=some (0,u0):=k1;have L2:Leads Ec w' {Ec with ref:=Ec.ref.set r (1,u)} w':=by
  refine⟨fun b hb=>⟨hb,rfl⟩,fun _ h=>h,by simp,fun q g v hq h=>?_⟩;by_cases e:r=q
  ·subst e
   rw [List.getElem?_set_self hrl] at h;injection h with h
   injection h with h1 h2
   subst h1;exact⟨0,u0,k1,ω,fun e=>by omega⟩
  ·rw [List.getElem?_set_ne e] at h
   exact⟨g,v,h,Nat.le_refl _,fun _=>rfl⟩
 refine⟨{Ec with ref:=Ec.ref.set r (1,u)},u,hu,by rw [List.getElem?_set_self hrl],Lc.trans L2,⟨Rc.df,Rc.n,fun i=>(Rc.tm i).mono L2,by simp [Rc.len],fun q o1 h1=>?_,fun q1 q2 o1 o2 g1 g2 u1 u2 b h1 h2 h3 h4 h5 h6 h7 h8 h9=>?_,Rc.lt,Rc.fr,Rc.old,Rc.keep⟩,fun x cs hp hx=>?_⟩
 ·by_cases e:r=q
  ·subst e
   rw [List.getElem?_set_self rl] at h1;obtain rfl:=Option.some.inj h1;exact⟨u,by rw [List.getElem?_set_self hrl],hokc.keep L2 (fun _ _=>rfl) (fun _ _ _ h=>h)⟩
  ·rw [List.getElem?_set_ne e] at h1
   obtain⟨v1,m1,m2⟩:=Rc.ob q o1 h1;exact⟨v1,by rw [List.getElem?_set_ne e];exact m1,m2.keep L2 (fun _ _=>rfl) (fun _ _ _ h=>h)⟩
 ·have key:∀q o2 g2 u2,r≠q→(σ.ob.set r {o with g:=1})[q]?=some o2→o2.live=true→(Ec.ref.set r (1,u))[q]?=some (g2,u2)→aP u=some b→aP u2=some b→False:=by
   intro q o2 g2 u2 e h1 h2 h3 h4 h5;rw [List.getElem?_set_ne e] at h1 h3;have hq:q<σ.ob.length:=(List.getElem?_eq_some_iff.1 h1).1;refine R'.sep σ.ob.length q o o2 0 g2 u u2 b ω ξ ?_ hl h2 hu (fr q ω _ (by rw [←hrr];exact h3)) h4 h5;show(σ.ob++[o])[q]?=some o2;rw [List.getElem?_append_left hq];exact h1
  by_cases e1:r=q1
  ·subst e1
   have e2:=h6;rw [List.getElem?_set_self hrl] at e2;injection e2 with e2
   injection e2 with _ e2
   subst e2;exact key q2 o2 g2 u2 h1 h3 h5 h7 h8 h9
  ·by_cases e2:r=q2
   ·subst e2
    have e3:=h7;rw [List.getElem?_set_self hrl] at e3;injection e3 with e3
    injection e3 with _ e3
    subst e3;exact key q1 o1 g1 u1 e1 h2 h4 h6 h9 h8
   ·rw [List.getElem?_set_ne e1] at h2 h6
    rw [List.getElem?_set_ne e2] at h3 h7;exact Rc.sep q1 q2 o1 o2 g1 g2 u1 u2 b h1 h2 h3 h4 h5 h6 h7 h8 h9
 ·have h2:RdV Ec w' x cs:=by
   rw [←hEc];exact hx.cutp hp
  exact h2.mono L2
theorem Rel.placeRow (R:Rel cx E σ a w) (L:Leads E w E' w') {o:Ob} {v:Value} (hv:RdT E' w' (.own σ.ob.length 0) v) (R':Rel cx E' {σ with ob:=σ.ob++[o]} a w') (hl:o.live=true) (hg:o.g=0) (ho:o.scp σ.ob.length=true) {r:Nat} (hr:σ.ob[r]?=some kP):
  ∃E'',Leads E w E'' w'∧RdT E'' w' (.own r 1) v∧Rel cx E'' {σ with ob:=σ.ob.set r {o with g:=1}} a w':=by
 obtain⟨E'',u,k1,k2,k3,k4,_⟩:=R.place L R' hl hg ho hr;refine⟨E'',k3,?_,k4⟩;simp only [RdT,RdV] at hv⊢;obtain⟨v',m1,m2,m3,m4⟩:=hv;obtain rfl:=(m4 0 u k1).2 rfl;refine⟨v',m1,m2,(List.getElem?_eq_some_iff.1 k2).1,fun gc u' h=>?_⟩;rw [k2] at h;injection h with h
 injection h with h1 h2
 subst h1 h2;exact⟨Nat.le_refl _,fun _=>rfl⟩
mutual
def V.up (nx:Nat):V→V
 | .own _ _=> .own nx 1
 | .agg l=> .agg (V.ups nx l)
 | .tup l=> .tup l
 | .clo f l=> .clo f l
 | .sl t s l=> .sl t s l
 | .arr s l=> .arr s l
 | .int k n=> .int k n
 | .bool b=> .bool b
 | .str s=> .str s
 | .nilS=> .nilS
 | .ptr r g p o=> .ptr r g p o
 | .osl r g s a b=> .osl r g s a b
 | .rp x=> .rp x
 | .fn f=> .fn f
 | .lit f=> .lit f
 | .junk=> .junk
def V.ups (nx:Nat):List V→List V
 |[]=>[]
 |x::l=>x.up nx::V.ups nx l
end
mutual
def V.upOk:V→Bool
 | .own r g=>r==0 && g==0
 | .agg l=>V.upsOk l
 | .tup _=>false
 | .clo _ _=>false
 | .sl _ _ _=>true
 | .arr _ l=>V.pures l
 | .int _ _=>true
 | .bool _=>true
 | .str _=>true
 | .nilS=>true
 | .ptr _ _ _ _=>false
 | .osl _ _ _ _ _=>false
 | .rp _=>false
 | .fn _=>false
 | .lit _=>false
 | .junk=>false
def V.upsOk:List V→Bool
 |[]=>true
 |x::l=>x.upOk && V.upsOk l
end
section
variable {E1 E2:Env} {w1:World} {m nx:Nat}
mutual
theorem xt9 (key:∀cs,RdV E1 w1 (.own m 0) cs→RdV E2 w1 (.own nx 1) cs) (pu:∀x cs,x.pure=true→RdV E1 w1 x cs→RdV E2 w1 x cs):∀{x:V} {cs:List Value},x.upOk=true→RdV E1 w1 (x.shift m) cs→RdV E2 w1 (x.up nx) cs
 | .own r g,cs,h,hr=>by
  simp only [V.upOk,Bool.and_eq_true,beq_iff_eq] at h;obtain⟨rfl,rfl⟩:=h;simp only [V.shift,V.up] at hr⊢;exact key cs hr
 | .agg l,cs,h,hr=>by
  simp only [V.upOk] at h;simp only [V.shift,V.up,RdV] at hr⊢;exact yf0 key pu h hr
 | .tup l,cs,h,hr=>by simp [V.upOk] at h
 | .clo f l,cs,h,hr=>by simp [V.upOk] at h
 | .sl t s l,cs,h,hr=>by simp only [V.shift,V.up] at hr⊢;exact pu _ _ rfl hr
 | .arr s l,cs,h,hr=>by rw [V.shift_pure m _ (show(V.arr s l).pure=true from h)] at hr;simp only [V.up];exact pu (.arr s l) _ h hr
 | .int k n,cs,h,hr=>by simp only [V.shift,V.up] at hr⊢;exact pu _ _ rfl hr
 | .bool b,cs,h,hr=>by simp only [V.shift,V.up] at hr⊢;exact pu _ _ rfl hr
 | .str s,cs,h,hr=>by simp only [V.shift,V.up] at hr⊢;exact pu _ _ rfl hr
 | .nilS,cs,h,hr=>by simp only [V.shift,V.up] at hr⊢;exact pu _ _ rfl hr
 | .ptr r g p o,cs,h,hr=>by simp [V.upOk] at h
 | .osl r g s a b,cs,h,hr=>by simp [V.upOk] at h
 | .rp x,cs,h,hr=>by simp [V.upOk] at h
 | .fn f,cs,h,hr=>by simp [V.upOk] at h
 | .lit f,cs,h,hr=>by simp [V.upOk] at h
 | .junk,cs,h,hr=>by simp [V.upOk] at h
theorem yf0 (key:∀cs,RdV E1 w1 (.own m 0) cs→RdV E2 w1 (.own nx 1) cs) (pu:∀x cs,x.pure=true→RdV E1 w1 x cs→RdV E2 w1 x cs):∀{l:List V} {cs:List Value},V.upsOk l=true→RdL E1 w1 (V.shifts m l) cs→RdL E2 w1 (V.ups nx l) cs
 |[],cs,_,hr=>by simpa only [V.shifts,V.ups,RdL] using hr
 |x::l,cs,h,hr=>by
  simp only [V.upsOk,Bool.and_eq_true] at h;simp only [V.shifts,V.ups,RdL] at hr⊢;obtain⟨c,ys,rfl,h1,h2⟩:=hr;exact⟨c,ys,rfl,xt9 key pu h.1 h1,yf0 key pu h.2 h2⟩
end
theorem yx0 (key:∀cs,RdV E1 w1 (.own m 0) cs→RdV E2 w1 (.own nx 1) cs) (pu:∀x cs,x.pure=true→RdV E1 w1 x cs→RdV E2 w1 x cs):∀{x:V} {v:Value},x.upOk=true→RdT E1 w1 (x.shift m) v→RdT E2 w1 (x.up nx) v
 | .own r g,v,h,hr=>by
  have:=xt9 (x:=.own r g) (cs:=[v]) key pu h (by simpa only [V.shift,RdT] using hr);simpa only [V.up,RdT] using this
 | .agg l,v,h,hr=>by
  simp only [V.shift,RdT] at hr;obtain⟨cs,rfl,h1⟩:=hr;have:=xt9 (x:=.agg l) (cs:=cs) key pu h (by simpa only [V.shift] using h1);simp only [V.up,RdT] at this⊢;exact⟨cs,rfl,this⟩
 | .tup l,v,h,hr=>by simp [V.upOk] at h
 | .clo f l,v,h,hr=>by simp [V.upOk] at h
 | .sl t s l,v,h,hr=>by simp only [V.shift,V.up,RdT] at hr⊢;exact pu _ _ rfl hr
 | .arr s l,v,h,hr=>by
  rw [V.shift_pure m _ (show(V.arr s l).pure=true from h)] at hr;simp only [RdT] at hr;obtain⟨cs,rfl,h1⟩:=hr;simp only [V.up,RdT];exact⟨cs,rfl,pu (.arr s l) _ h h1⟩
 | .int k n,v,h,hr=>by simp only [V.shift,V.up,RdT] at hr⊢;exact pu _ _ rfl hr
 | .bool b,v,h,hr=>by simp only [V.shift,V.up,RdT] at hr⊢;exact pu _ _ rfl hr
 | .str s,v,h,hr=>by simp only [V.shift,V.up,RdT] at hr⊢;exact pu _ _ rfl hr
 | .nilS,v,h,hr=>by simp only [V.shift,V.up,RdT] at hr⊢;exact pu _ _ rfl hr
 | .ptr r g p o,v,h,hr=>by simp [V.upOk] at h
 | .osl r g s a b,v,h,hr=>by simp [V.upOk] at h
 | .rp x,v,h,hr=>by simp [V.upOk] at h
 | .fn f,v,h,hr=>by simp [V.upOk] at h
 | .lit f,v,h,hr=>by simp [V.upOk] at h
 | .junk,v,h,hr=>by simp [V.upOk] at h
end
theorem Rel.placeUp (R:Rel cx E σ a w) (L:Leads E w E' w') {o:Ob} {v:Value} {x:V} (hx:x.upOk=true) (hv:RdT E' w' (x.shift σ.ob.length) v) (R':Rel cx E' {σ with ob:=σ.ob++[o]} a w') (hl:o.live=true) (hg:o.g=0) (ho:o.scp σ.ob.length=true) {r:Nat} (hr:σ.ob[r]?=some kP):
  ∃E'',Leads E w E'' w'∧RdT E'' w' (x.up r) v∧Rel cx E'' {σ with ob:=σ.ob.set r {o with g:=1}} a w':=by
 obtain⟨E'',u,k1,k2,k3,k4,k5⟩:=R.place L R' hl hg ho hr;refine⟨E'',k3,yx0 (fun cs hc=>?_) k5 hx hv,k4⟩;simp only [RdV] at hc⊢;obtain⟨v',rfl,m2,m3,m4⟩:=hc;obtain rfl:=(m4 0 u k1).2 rfl;refine⟨v',rfl,m2,(List.getElem?_eq_some_iff.1 k2).1,fun gc u' h=>?_⟩;rw [k2] at h;injection h with h
 injection h with h1 h2
 subst h1 h2;exact⟨Nat.le_refl _,fun _=>rfl⟩
theorem xlc (R:Rel cx E σ a w) {oo:Oper} {o:Ob} (h:Leads E w E w→nR P cx E a w oo (.own σ.ob.length 0) {σ with ob:=σ.ob++[o]}) (hl:o.live=true) (hg:o.g=0) (ho:o.scp σ.ob.length=true) {r:Nat} (hr:σ.ob[r]?=some kP):
  nR P cx E a w oo (.own r 1) {σ with ob:=σ.ob.set r {o with g:=1}}:=by
 obtain⟨v,w',E',hrun,L,hv,R'⟩:=h (Leads.refl _ _);obtain⟨E'',k3,k5,k4⟩:=R.placeRow L hv R' hl hg ho hr;exact⟨v,w',E'',hrun,k3,k5,k4⟩
theorem xxl (R:Rel cx E σ a w) {oo:Oper} {o:Ob} (h:Leads E w E w→nR P cx E a w oo (.ptr σ.ob.length 0 [] 0) {σ with ob:=σ.ob++[o]}) (hl:o.live=true) (hg:o.g=0) (ho:o.scp σ.ob.length=true) {r:Nat} (hr:σ.ob[r]?=some kP):
  nR P cx E a w oo (.ptr r 1 [] 0) {σ with ob:=σ.ob.set r {o with g:=1}}:=by
 obtain⟨v,w',E',hrun,L,hv,R'⟩:=h (Leads.refl _ _);obtain⟨E'',u,k1,k2,k3,k4,_⟩:=R.place L R' hl hg ho hr;refine⟨v,w',E'',hrun,k3,?_,k4⟩;simp only [RdT,RdV] at hv⊢;obtain⟨v',m1,m2,m3,m4⟩:=hv;have m5:=(m4 0 u k1).2 rfl;refine⟨v',m1,m2,(List.getElem?_eq_some_iff.1 k2).1,fun gc u' h=>?_⟩;rw [k2] at h;injection h with h
 injection h with h1 h2
 subst h1 h2;exact⟨Nat.le_refl _,fun _=>m5⟩
theorem xq0 (R:Rel cx E σ a w) {oo:Oper} {e s:Nat} {l:List V} (h:nR P cx E a w oo (.own σ.ob.length 0) {σ with ob:=σ.ob++[⟨.row e,true,0,.arr s l⟩]}):nR P cx E a w oo (.sl true s l) σ:=by
 obtain⟨v,w',E',hrun,L,hv,R'⟩:=h;obtain⟨e',lv,s',l',xs,q1,q2,q3,q4,q5,q6,q7,q8,q9,q10,q11⟩:=xeb R' hv (by simp [bT]);simp at q1;obtain⟨rfl,rfl,rfl,rfl⟩:=q1;have hlt:=q9.lt;have hsl:∃A c,v=.slice A l.length c∧l.length≤c:=by
  rcases q9.2 with ⟨hv,hn⟩|⟨b,cap,cur,hv,_,_,hc,_⟩
  ·exact⟨none,0,by rw [hv,hn],ω⟩
  ·exact⟨_,_,hv,hc⟩
 obtain⟨A,c,e1,hc⟩:=hsl;have hbk:∀b,aP v=some b→v.ownBlock=some b:=by
  intro b hb;rw [e1] at hb⊢;cases A with
  |none=>simp [aP] at hb
  |some aa=>simpa [aP,Value.ownBlock] using hb
 obtain⟨L2,R2⟩:=R'.freeze (r:=σ.ob.length) (o:=⟨.row e,true,0,.arr s l⟩) ξ q4 (fun b hb=>⟨(hlt b (hbk b hb)).1,trivial⟩);have hle:σ.ob.length≤E'.ref.length:=by rw [R'.len];simp
 have hup:(({σ with ob:=σ.ob++[⟨.row e,true,0,.arr s l⟩]}:AS).upd σ.ob.length Ob.freeze).ob.take σ.ob.length=σ.ob:=by
  simp [AS.upd]
 have R3:=R2.cut σ.ob.length (by simp [AS.upd]) (fun i=>by have:=(R.tm i).scp;rwa [R.len] at this) (fun o' ho'=>by
  rw [hup] at ho';obtain⟨j,hj,e⟩:=List.mem_iff_getElem.1 ho';obtain⟨u',_,k⟩:=R.ob j o' (by rw [List.getElem?_eq_getElem hj,e]);have:=k.scp
  rwa [R.len] at this)
 have R4:Rel cx {E' with B:=fun b=>E'.B b∨aP v=some b,ref:=E'.ref.take σ.ob.length} σ a w':=by
  simp only [hup] at R3;exact R3
 have L3:Leads E w {E' with B:=fun b=>E'.B b∨aP v=some b,ref:=E'.ref.take σ.ob.length} w':=⟨fun b hb=>⟨.inl (L.b b hb).1,(L.b b hb).2⟩,L.f,by simp only [List.length_take,R.len];omega,fun q g v hq h=>by
  refine L.ref q g v hq ?_;rw [List.getElem?_take] at h;split at h
  ·exact h
  ·cases h⟩
 refine⟨v,w',_,hrun,L3,?_,R4⟩;simp only [RdT,RdV];refine⟨q5,q6,A,c,by rw [e1],hc,q8,fun h0=>?_⟩;rcases q9.2 with ⟨hv,hn⟩|⟨b,cap,cur,hv,m1,m2,m3,m4,m5,m6⟩
 ·omega
 ·rw [e1] at hv
  injection hv with hv1 hv2 hv3
  subst hv1;refine⟨b,0,xs,rfl,.inr (by rw [e1];rfl),fun _=>(R'.fr b).2 m1,RdL.cutp q5 ((q10.mono L2)),fun j v hv=>?_⟩;rw [←m6,List.getElem?_take] at hv;split at hv
  ·simpa [World.cell?,m2] using hv
  ·cases hv
end
end Rdn.Dp
namespace Rdn.Dp
open Go Go.RowKit Rdn
def kS:V→List Nat
 | .int _ _=>[]
 | .bool _=>[]
 | .str _=>[]
 | .nilS=>[]
 | .agg _=>[]
 | .arr _ _=>[]
 | .sl _ _ _=>[]
 | .own r _=>[r]
 | .ptr r _ _ _=>[r]
 | .osl r _ _ _ _=>[r]
 | .rp _=>[]
 | .tup _=>[]
 | .clo _ _=>[]
 | .fn _=>[]
 | .lit _=>[]
 | .junk=>[]
def xrx:V→Option Nat
 | .int _ _=>none
 | .bool _=>none
 | .str _=>none
 | .nilS=>none
 | .agg _=>none
 | .arr _ _=>none
 | .sl _ _ _=>none
 | .own r _=>none
 | .ptr r _ _ _=>some r
 | .osl r _ _ _ _=>some r
 | .rp _=>none
 | .tup _=>none
 | .clo _ _=>none
 | .fn _=>none
 | .lit _=>none
 | .junk=>none
def xmn:V→Option Nat
 | .int _ _=>none
 | .bool _=>none
 | .str _=>none
 | .nilS=>none
 | .agg _=>none
 | .arr _ _=>none
 | .sl _ _ _=>none
 | .own r _=>some r
 | .ptr r _ _ _=>none
 | .osl r _ _ _ _=>none
 | .rp _=>none
 | .tup _=>none
 | .clo _ _=>none
 | .fn _=>none
 | .lit _=>none
 | .junk=>none
def xxa:V→Bool
 | .int _ _=>false
 | .bool _=>false
 | .str _=>false
 | .nilS=>true
 | .agg _=>false
 | .arr _ _=>false
 | .sl _ _ _=>false
 | .own _ _=>false
 | .ptr _ _ _ _=>false
 | .osl _ _ _ _ _=>false
 | .rp _=>false
 | .tup _=>false
 | .clo _ _=>false
 | .fn _=>false
 | .lit _=>false
 | .junk=>false
def V.pureT:V→Bool
 | .tup l=>V.pures l
 |x=>x.pure
theorem V.shift_pureT (m:Nat) (x:V) (h:V.pureT x=true):x.shift m=x:=by
 unfold V.pureT at h;split at h
 ·simp only [V.shift,V.shifts_pure m _ h]
 ·exact V.shift_pure m x h
def xsP:POp→List X
 | .mov x=>[x]
 | .bin _ _ x y=>[x,y]
 | .un _ x=>[x]
 | .conv _ x=>[x]
 | .nilc x=>[x]
 | .load _ _ x=>[x]
 | .fieldA _ _ x=>[x]
 | .field _ _ _ _ x=>[x]
 | .idxA _ x i=>[x,i]
 | .idxAA _ _ x i=>[x,i]
 | .idx _ _ _ x i=>[x,i]
 | .ext x _=>[x]
 | .len x=>[x]
 | .lenA _=>[]
 | .mx x y=>[x,y]
 | .mn x y=>[x,y]
 | .pick c x y=>[c,x,y]
 | .b2s x=>[x]
 | .eqs _ _ x y=>[x,y]
 | .lenS x=>[x]
 | .idxS x i=>[x,i]
 | .mkf _ xs=>xs
 | .mkb _ x=>[x]
 | .bad=>[]
def fpP (σ:AS):POp→List Nat
 | .load _ _ x=>kS (x.ev σ)
 | .fieldA _ _ x=>kS (x.ev σ)
 | .idxA _ x _=>kS (x.ev σ)
 | .idxAA _ _ x _=>kS (x.ev σ)
 | .nilc x=>kS (x.ev σ)
 | .len x=>kS (x.ev σ)
 | .mov _=>[]
 | .bin _ _ _ _=>[]
 | .un _ _=>[]
 | .conv _ _=>[]
 | .field _ _ _ _ _=>[]
 | .idx _ _ _ _ _=>[]
 | .ext _ _=>[]
 | .lenA _=>[]
 | .mx _ _=>[]
 | .mn _ _=>[]
 | .pick _ _ _=>[]
 | .b2s _=>[]
 | .eqs _ _ _ _=>[]
 | .lenS _=>[]
 | .idxS _ _=>[]
 | .mkf _ _=>[]
 | .mkb _ _=>[]
 | .bad=>[]
def oX:Option X→List X
 |none=>[]
 |some x=>[x]
def jV:MOp→List X
 | .box _ x=>[x]
 | .alloc _ _=>[]
 | .build _ _ ps=>ps.map (·.2)
 | .buildS _ _ _ _ ps=>ps.map (·.2)
 | .store _ x y=>[x,y]
 | .sl _ x lo hi mx=>x::(oX lo++(oX hi++oX mx))
 | .slA _ _ x lo hi mx=>x::(oX lo++(oX hi++oX mx))
 | .mkS _ _ _ _ x y=>[x,y]
 | .app _ _ _ x y=>[x,y]
 | .bytes x=>[x]
 | .copy _ _ x y=>[x,y]
 | .appz _ _ _ _ x y=>[x,y]
 | .mkM _=>[]
 | .ins _ m k x=>[m,k,x]
 | .lk _ x k=>[x,k]
def xW (σ:AS):MOp→Option Nat
 | .store _ x _=>xrx (x.ev σ)
 | .sl _ x _ _ _=>xmn (x.ev σ)
 | .slA _ _ x _ _ _=>xrx (x.ev σ)
 | .app _ _ _ x _=>xmn (x.ev σ)
 | .box _ _=>none
 | .alloc _ _=>none
 | .build _ _ _=>none
 | .buildS _ _ _ _ _=>none
 | .mkS _ _ _ _ _ _=>none
 | .bytes _=>none
 | .copy _ _ _ _=>none
 | .appz _ _ _ _ _ _=>none
 | .mkM _=>none
 | .ins _ _ _ _=>none
 | .lk _ _ _=>none
def lL (σ:AS):MOp→List Nat
 | .store _ x _=>kS (x.ev σ)
 | .sl _ x _ _ _=>kS (x.ev σ)
 | .slA _ _ x _ _ _=>kS (x.ev σ)
 | .app _ _ _ x y=>kS (x.ev σ)++kS (y.ev σ)
 | .box _ _=>[]
 | .alloc _ _=>[]
 | .build _ _ _=>[]
 | .buildS _ _ _ _ _=>[]
 | .mkS _ _ _ _ _ _=>[]
 | .bytes _=>[]
 | .copy _ _ _ _=>[]
 | .appz _ _ _ _ _ _=>[]
 | .mkM _=>[]
 | .ins _ _ _ _=>[]
 | .lk _ _ _=>[]
def isW (σ:AS):MOp→Bool
 | .store _ _ _=>true
 | .sl _ _ _ _ _=>true
 | .slA _ _ _ _ _ _=>true
 | .app _ _ _ x _=>!xxa (x.ev σ)
 | .box _ _=>false
 | .alloc _ _=>false
 | .build _ _ _=>false
 | .buildS _ _ _ _ _=>false
 | .mkS _ _ _ _ _ _=>false
 | .bytes _=>false
 | .copy _ _ _ _=>false
 | .appz _ _ _ _ _ _=>false
 | .mkM _=>false
 | .ins _ _ _ _=>false
 | .lk _ _ _=>false
def qY (σ:AS):MOp→V×Prop
 | .build none z ps=>(.agg (kG z (gB σ ps)),sS z (gB σ ps))
 | .build (some s) z ps=>(.arr s (kG z (gB σ ps)),sS z (gB σ ps))
 | .buildS e s z m ps=>(.sl true s (kG (List.replicate m z) (gB σ ps)),sS (List.replicate m z) (gB σ ps)∧V.pures (kG (List.replicate m z) (gB σ ps))=true)
 | .bytes x=>((xbm σ (x.ev σ)).1,(xbm σ (x.ev σ)).2.2)
 | .box T x=>(.rp (x.ev σ),(x.ev σ).pure=true∧((x.ev σ).size≠0∨(x.ev σ).isAgg=true))
 | .mkS e s b z x y=>match x.ev σ,y.ev σ with
  | .int _ l,.int _ c=>(.sl true s (List.replicate l.toNat z),0≤l∧l≤c∧(b:Int)*c≤140737488355328∧c≤140737488355328)
  |_,_=>bad
 | .app e s b x y=>match x.ev σ with
  | .nilS=>(.sl true s (jT σ σ.ob.length (y.ev σ)).1,(jT σ σ.ob.length (y.ev σ)).2.2∧((jT σ σ.ob.length (y.ev σ)).1=[]∨(jT σ σ.ob.length (y.ev σ)).2.1=s)∧(jT σ σ.ob.length (y.ev σ)).1.length*b≤140737488355328∧(jT σ σ.ob.length (y.ev σ)).1.length≤140737488355328)
  |_=>bad
 |_=>bad
def oW (σ:AS) (nx:Nat):MOp→V×Ob×Prop
 | .alloc T z=>(.ptr nx 1 [] 0,⟨.box false T,true,1,z⟩,True)
 | .box T x=>(.ptr nx 1 [] 0,⟨.box false T,true,1,x.ev σ⟩,(x.ev σ).size≠0∨(x.ev σ).isAgg=true)
 | .buildS e s z m ps=>(.own nx 1,⟨kOf (V.pures (kG (List.replicate m z) (gB σ ps))) e,true,1,.arr s (kG (List.replicate m z) (gB σ ps))⟩,sS (List.replicate m z) (gB σ ps))
 | .mkS e s b z x y=>match x.ev σ,y.ev σ with
  | .int _ l,.int _ c=>(.own nx 1,⟨.row e,true,1,.arr s (List.replicate l.toNat z)⟩,0≤l∧l≤c∧(b:Int)*c≤140737488355328∧c≤140737488355328)
  |_,_=>(.junk,kP,False)
 | .app e s b x y=>match x.ev σ with
  | .nilS=>(.own nx 1,⟨.row e,true,1,.arr s (jT σ σ.ob.length (y.ev σ)).1⟩,(jT σ σ.ob.length (y.ev σ)).2.2∧((jT σ σ.ob.length (y.ev σ)).1=[]∨(jT σ σ.ob.length (y.ev σ)).2.1=s)∧(jT σ σ.ob.length (y.ev σ)).1.length*b≤140737488355328∧(jT σ σ.ob.length (y.ev σ)).1.length≤140737488355328)
  |_=>(.junk,kP,False)
 |_=>(.junk,kP,False)
section
variable {σ σ':AS}
theorem xh5 {r g:Nat} (h:σ.ob[r]?=σ'.ob[r]?):oN σ r g=oN σ' r g:=by simp only [oN,h]
theorem xs6 {r g:Nat} (h:σ.ob[r]?=σ'.ob[r]?):bT σ r g=bT σ' r g:=by simp only [bT,h]
theorem xn5 {σ σ':AS} {r g:Nat} (h:σ.ob[r]?=σ'.ob[r]?):gG σ r g=gG σ' r g:=by simp only [gG,h]
theorem yg1 {m:POp} (hx:∀x∈xsP m,x.ev σ=x.ev σ') (ho:∀r∈fpP σ m,σ.ob[r]?=σ'.ob[r]?):iF σ m=iF σ' m:=by
 cases m<;>simp only [xsP,List.mem_cons,List.not_mem_nil,or_false,forall_eq_or_imp,forall_eq,fpP] at hx ho<;>simp only [iF,hx]
 case mkf f xs=>rw [List.map_congr_left hx]
 case load ag n x=>
  rw [hx] at ho;cases h:x.ev σ'<;>simp only [xgo]
  rw [xh5 (ho _ (by simp [kS,h]))]
 case fieldA fo j x=>
  rw [hx] at ho;cases h:x.ev σ'<;>simp only [xgd]
  case rp y=>cases y<;>rfl
  rw [xh5 (ho _ (by simp [kS,h]))]
 case nilc x=>
  rw [hx] at ho;cases h:x.ev σ'<;>simp only [xh3]
  rw [xh5 (ho _ (by simp [kS,h]))]
 case len x=>
  rw [hx] at ho;cases h:x.ev σ'<;>simp only [xgn]
  rw [xn5 (ho _ (by simp [kS,h]))]
 case idxA s x i=>
  rw [hx.1] at ho;refine congrArg (fun f=>uT f (i.ev σ')) (funext fun n=>?_);cases h:x.ev σ'<;>simp only [xgj]
  rw [xn5 (ho _ (by simp [kS,h]))]
 case idxAA m s x i=>
  rw [hx.1] at ho;refine congrArg (fun f=>uT f (i.ev σ')) (funext fun n=>?_);cases h:x.ev σ'<;>simp only [xgi]
  case rp y=>cases y<;>rfl
  rw [xh5 (ho _ (by simp [kS,h]))]
theorem xpd {ps:List (Nat×X)} (hx:∀x∈ps.map (·.2),X.ev σ x=X.ev σ' x):gB σ ps=gB σ' ps:=by
 unfold gB;refine List.map_congr_left fun p hp=>?_;rw [hx p.2 (List.mem_map.2 ⟨p,hp,rfl⟩)]
theorem yv9 {r0 r1:Nat} (h0:r0=r1) {y:V} (ho:∀r∈kS y,σ.ob[r]?=σ'.ob[r]?):mO σ r0 y=mO σ' r1 y:=by
 subst h0;cases y<;>simp only [mO]
 rw [xn5 (ho _ (by simp [kS]))]
theorem ypv {r:Nat} {y:V} (hr:σ.ob[r]?=σ'.ob[r]?) (ho:∀r∈kS y,σ.ob[r]?=σ'.ob[r]?):xf9 σ r y=xf9 σ' r y:=by
 unfold xf9;rw [hr];cases y<;>try rfl
 rename_i q g';have:=ho q (by simp [kS]);simp only [this]
theorem ye6 {r0 r1:Nat} (h0:r0=r1) {y:V} (ho:∀r∈kS y,σ.ob[r]?=σ'.ob[r]?):jT σ r0 y=jT σ' r1 y:=by
 subst h0;cases y<;>simp only [jT]
 rw [xs6 (ho _ (by simp [kS]))]
theorem xeo {d:Int} {x:Option X} (hx:∀y∈oX x,y.ev σ=y.ev σ'):aW d σ x=aW d σ' x:=by
 cases x with
 |none=>rfl
 |some y=>simp only [aW,hx y (by simp [oX])]
theorem yg0 {m:MOp} (hx:∀x∈jV m,x.ev σ=x.ev σ') (ho:∀r∈lL σ m,σ.ob[r]?=σ'.ob[r]?) (hl:σ.ob.length=σ'.ob.length):qY σ m=qY σ' m:=by
 cases m with
 |box T x=>simp only [qY,hx x (by simp [jV])]
 |build ar z ps=>cases ar<;>simp only [qY,xpd hx]
 |buildS e s z m ps=>simp only [qY,xpd hx]
 |bytes x=>
  simp only [qY,hx x (by simp [jV])];cases x.ev σ'<;>simp only [xbm,qZ]
 |mkS e s b z x y=>simp only [qY,hx x (by simp [jV]),hx y (by simp [jV])]
 |app e s b x y=>
  have h1:=hx x (by simp [jV]);have h2:=hx y (by simp [jV]);simp only [lL,h2] at ho;simp only [qY,h1,h2];rw [ye6 hl (y:=y.ev σ') (fun r hr=>ho r (by simp [hr]))]
 |_=>rfl
theorem yfz {m:MOp} {nx:Nat} (hx:∀x∈jV m,x.ev σ=x.ev σ') (ho:∀r∈lL σ m,σ.ob[r]?=σ'.ob[r]?) (hl:σ.ob.length=σ'.ob.length):oW σ nx m=oW σ' nx m:=by
 cases m with
 |box T x=>simp only [oW,hx x (by simp [jV])]
 |buildS e s z m ps=>simp only [oW,xpd hx]
 |mkS e s b z x y=>simp only [oW,hx x (by simp [jV]),hx y (by simp [jV])]
 |app e s b x y=>
  have h1:=hx x (by simp [jV]);have h2:=hx y (by simp [jV]);simp only [lL,h2] at ho;simp only [oW,h1,h2];rw [ye6 hl (y:=y.ev σ') (fun r hr=>ho r (by simp [hr]))]
 |_=>rfl
mutual
theorem ysy (ids:List Nat):∀{x:V},(∀r∈x.ids,σ.ob[r]?=σ'.ob[r]?)→x.res σ ids=x.res σ' ids∧x.resOk σ=x.resOk σ'
 | .own r g,h=>by
  have:=xs6 (g:=g) (h r (by simp [V.ids]));exact⟨by simp only [V.res,this],by simp only [V.resOk,this]⟩
 | .agg l,h=>by have:=xee ids (l:=l) (by simpa only [V.ids] using h);exact⟨by simp only [V.res,this.1],by simp only [V.resOk,this.2]⟩
 | .tup l,h=>by have:=xee ids (l:=l) (by simpa only [V.ids] using h);exact⟨by simp only [V.res,this.1],by simp only [V.resOk,this.2]⟩
 | .clo f l,h=>by have:=xee ids (l:=l) (by simpa only [V.ids] using h);exact⟨by simp only [V.res,this.1],by simp only [V.resOk,this.2]⟩
 | .int k n,_=>⟨rfl,rfl⟩
 | .bool b,_=>⟨rfl,rfl⟩
 | .str s,_=>⟨rfl,rfl⟩
 | .nilS,_=>⟨rfl,rfl⟩
 | .arr s l,_=>⟨rfl,rfl⟩
 | .sl t s l,_=>⟨rfl,rfl⟩
 | .ptr r g p o,_=>⟨rfl,rfl⟩
 | .osl r g s a b,_=>⟨rfl,rfl⟩
 | .rp x,_=>⟨rfl,rfl⟩
 | .fn f,_=>⟨rfl,rfl⟩
 | .lit f,_=>⟨rfl,rfl⟩
 | .junk,_=>⟨rfl,rfl⟩
theorem xee (ids:List Nat):∀{l:List V},(∀r∈V.idss l,σ.ob[r]?=σ'.ob[r]?)→V.ress σ ids l=V.ress σ' ids l∧V.ressOk σ l=V.ressOk σ' l
 |[],_=>⟨rfl,rfl⟩
 |x::l,h=>by
  simp only [V.idss,List.mem_append] at h;have h1:=ysy ids (x:=x) (fun r hr=>h r (.inl hr));have h2:=xee ids (l:=l) (fun r hr=>h r (.inr hr));exact⟨by simp only [V.ress,h1.1,h2.1],by simp only [V.ressOk,h1.2,h2.2]⟩
end
theorem xxr {r:Nat} (h:xbv σ r):∃o,σ.ob[r]?=some o:=by
 unfold xbv at h;cases ho:σ.ob[r]? with
 |none=>rw [ho] at h;exact h.elim
 |some o=>exact⟨o,rfl⟩
theorem xnn {r:Nat} {f f':Ob→Ob} {o:Ob} (h1:σ.ob[r]?=some o) (h2:σ'.ob[r]?=some o) (hf:f o=f' o):r<σ.ob.length∧(σ.upd r f).ob=σ.ob.set r (f o)∧(σ'.upd r f').ob=σ'.ob.set r (f o):=
 ⟨(List.getElem?_eq_some_iff.1 h1).1,by simp [AS.upd,h1],by simp [AS.upd,h2,hf]⟩
theorem xny {m:MOp} (hx:∀x∈jV m,x.ev σ=x.ev σ') (ho:∀r∈lL σ m,σ.ob[r]?=σ'.ob[r]?) (hw:isW σ m=true) (hc:(dV σ m).2.2):
  (dV σ' m).1=(dV σ m).1∧(dV σ' m).2.2∧((xW σ m=none∧(dV σ m).2.1.ob=σ.ob∧(dV σ' m).2.1.ob=σ'.ob)∨∃r o',xW σ m=some r∧r∈lL σ m∧r<σ.ob.length∧(dV σ m).2.1.ob=σ.ob.set r o'∧(dV σ' m).2.1.ob=σ'.ob.set r o'):=by
 cases m with
 |store n x y=>
  have h1:=hx x (by simp [jV]);have h2:=hx y (by simp [jV]);simp only [dV,xW,lL,h1,h2] at ho hc⊢;cases h:x.ev σ'<;>rw [h] at ho hc<;>simp only [xft,qZ] at hc⊢
  rename_i r g p o;have hr:=ho r (by simp [kS]);obtain⟨q,hq⟩:=xxr hc.2.1;obtain⟨k1,k2,k3⟩:=xnn (f:=fun ob=>{ob with v:=uU ob.v p (y.ev σ')}) (f':=fun ob=>{ob with v:=uU ob.v p (y.ev σ')}) hq (by rw [←hr];exact hq) rfl;refine⟨trivial,?_,.inr ⟨r,_,rfl,by simp [kS],k1,k2,k3⟩⟩;simp only [xh5 (g:=g) hr,xbv,hr] at hc;simpa only [xbv] using hc
 |sl s x lo hi mx=>
  have h1:=hx x (by simp [jV]);have b1:∀d,aW d σ lo=aW d σ' lo:=fun d=>xeo fun z hz=>hx z (by simp [jV,hz]);have b2:∀d,aW d σ hi=aW d σ' hi:=fun d=>xeo fun z hz=>hx z (by simp [jV,hz]);have b3:∀d,aW d σ mx=aW d σ' mx:=fun d=>xeo fun z hz=>hx z (by simp [jV,hz]);simp only [dV,xW,lL,h1] at ho hc⊢;cases h:x.ev σ'<;>rw [h] at ho hc<;>simp only [slV,qZ,b1,b2,b3] at hc⊢
  ·exact⟨trivial,hc,.inl ⟨by simp [xmn],trivial,trivial⟩⟩
  ·rename_i r g
   have hr:=ho r (by simp [kS]);obtain⟨e,lv,s',l,hq,_,_⟩:=xn4 hc.1;obtain⟨k1,k2,k3⟩:=xnn (f:=Ob.freeze) (f':=Ob.freeze) hq (by rw [←hr];exact hq) rfl;rw [xs6 hr] at hc⊢;exact⟨rfl,hc,.inr ⟨r,_,rfl,by simp [kS],k1,k2,k3⟩⟩
 |slA m s x lo hi mx=>
  have h1:=hx x (by simp [jV]);have b1:∀d,aW d σ lo=aW d σ' lo:=fun d=>xeo fun z hz=>hx z (by simp [jV,hz]);have b2:∀d,aW d σ hi=aW d σ' hi:=fun d=>xeo fun z hz=>hx z (by simp [jV,hz]);simp only [dV,xW,lL,h1] at ho hc⊢;unfold xfq at hc⊢;cases h:x.ev σ'<;>rw [h] at ho hc<;>try (simp only [qZ] at hc;done)
  rename_i r g p o;have hr:=ho r (by simp [kS]);split at hc
  case h_2=>simp only [qZ] at hc
  rename_i r' g' heq;injection heq with e1 e2 e3 e4
  subst e1 e2 e3 e4;have eo:=xh5 (g:=g) hr;simp only [eo] at hc⊢;split at hc
  case h_2=>simp only [qZ] at hc
  rename_i s' l heq;simp only [heq,b1,b2] at hc⊢;obtain⟨q,hq,_,_⟩:=yb8 (σ:=σ') (r:=r) (g:=g) hc.1;obtain⟨k1,k2,k3⟩:=xnn (f:=Ob.freeze) (f':=Ob.freeze) (σ:=σ) (σ':=σ') (by rw [hr];exact hq) hq rfl;simp only [hr] at hc;exact⟨trivial,hc,.inr ⟨r,_,rfl,by simp [kS],k1,k2,k3⟩⟩
 |app e s b x y=>
  have h1:=hx x (by simp [jV]);have h2:=hx y (by simp [jV]);simp only [isW,h1,xxa] at hw;simp only [dV,xW,lL,h1,h2] at ho hc⊢;cases h:x.ev σ'<;>rw [h] at ho hc hw<;>simp only [xci,qZ] at hc⊢<;>try (simp at hw;done)
  rename_i r g;have hr:=ho r (by simp [kS]);have hs:mO σ r (y.ev σ')=mO σ' r (y.ev σ'):=yv9 rfl (fun q hq=>ho q (by simp [hq]));have hrow:=xn5 (g:=g) hr;have hok:=ypv (y:=y.ev σ') hr (fun q hq=>ho q (by simp [hq]));obtain⟨q,hq⟩:=xxr hc.2.1;simp only [hs,hrow,hok,xbv,eAt,hr] at hc⊢;obtain⟨k1,k2,k3⟩:=xnn (σ:=σ) (σ':=σ') (f:=fun o=>(⟨o.k,o.live,g+1,.arr s ((gG σ' r g).2.1++(mO σ' r (y.ev σ')).1)⟩:Ob)) (f':=fun o=>⟨o.k,o.live,g+1,.arr s ((gG σ' r g).2.1++(mO σ' r (y.ev σ')).1)⟩) hq (by rw [←hr];exact hq) rfl;exact⟨trivial,hc,.inr ⟨r,_,rfl,by simp [kS],k1,k2,k3⟩⟩
 |_=>simp [isW] at hw
end
section
variable {P:Program} {cx:Cx} {E:Env} {σ:AS} {a:Act} {w:World}
theorem xuz {op:Op} {e s m:Nat} {z:V} {ps:List (Nat×X)} (hc:rC P op=some (.buildS e s z m ps)):∃T qs i,op=.buildSlice T m qs∧P.underlying T=some (.slice e)∧P.info? e=some i∧tK P e z=true∧0<i.size∧m*i.size≤2 ^ 24∧z.size=i.size∧wY qs.toList=some ps∧s=i.size:=by
 unfold rC at hc;split at hc
 case h_4=>
  split at hc
  ·rename_i h1
   split at hc
   ·rename_i h2 h3
    split at hc
    ·rename_i h4
     simp only [Bool.and_eq_true,decide_eq_true_eq] at h4;simp only [Option.map_eq_some_iff] at hc;obtain⟨x,hx,e⟩:=hc;injection e with e1 e2 e3 e4 e5
     subst e1 e2 e3 e4 e5;exact⟨_,_,_,rfl,h1,h2,h4.1,h4.2.1,h4.2.2.1,h4.2.2.2,hx,rfl⟩
    ·cases hc
   ·cases hc
  ·cases hc
 all_goals (repeat' split at hc)<;>first|(cases hc;done)|(simp [Option.bind_eq_some_iff] at hc;done)
theorem xuy {op:Op} {T:TypeId} {x:X} (hc:rC P op=some (.box T x)):∃y,op=.box T y∧dC y=some x:=by
 unfold rC at hc;split at hc
 case h_1=>
  simp only [Option.map_eq_some_iff] at hc;obtain⟨y,hx,e⟩:=hc;injection e with e1 e2
  subst e1 e2;exact⟨_,rfl,hx⟩
 all_goals (repeat' split at hc)<;>first|(cases hc;done)|(simp [Option.bind_eq_some_iff] at hc;done)
theorem yhw {op:Op} {T:TypeId} {z:V} (hc:rC P op=some (.alloc T z)):tK P T z=true:=by
 unfold rC at hc;split at hc
 case h_2=>
  split at hc
  ·split at hc
   ·cases hc;assumption
   ·cases hc
  ·cases hc
 all_goals (repeat' split at hc)<;>first|(cases hc;done)|(simp [Option.bind_eq_some_iff] at hc;done)
theorem yqk {o:Oper} {m:MOp} (hc:rC P o.op=some m) (R:Rel cx E σ a w) (h:(qY σ m).2):nR P cx E a w o (qY σ m).1 σ:=by
 have hw:cx.W.heap.size≤w.heap.size:=R.keep.size;unfold qY at h⊢;split at h
 ·exact xa7 hc R h
 ·exact xa7 hc R h
 ·rename_i e s z m ps
  exact xq0 R (xa7 hc R h)
 ·rename_i x
  have:=xa7 hc R h;simp only [dV] at this h⊢;cases e1:x.ev σ<;>simp only [e1,xbm,qZ] at h this⊢<;>exact this
 ·rename_i T x
  obtain⟨y,e1,hx⟩:=xuy hc;obtain⟨L,R'⟩:=R.allocB (a.eval y).cells T;refine⟨.pointer (some ⟨w.heap.size,0,none⟩),_,_,.inl (by simp only [execOp,e1,Instr.box,newVar,newRow,Sem.run_bind,run_newObj,Result.andThen_ok,Sem.run_pure];rfl),L,?_,R'⟩;refine xj9 h.1 (.inr rfl) (((dX R hx).toV h.2).mono L) (fun j v hv=>?_);rw [Nat.zero_add];unfold World.cell?;rw [xx1];simpa using hv
 ·rename_i e s b z x y
  have:=xa7 hc R;simp only [dV] at this;cases e1:x.ev σ<;>simp only [e1,bad] at h this⊢
  cases e2:y.ev σ<;>simp only [e2,bad] at h this⊢
  exact xq0 R (this h)
 ·rename_i e s b x y
  have:=xa7 hc R;simp only [dV,xci] at this;cases e1:x.ev σ<;>simp only [e1,bad] at h this⊢
  exact xq0 R (this h)
 ·exact h.elim
theorem yqj {o:Oper} {m:MOp} {nx:Nat} (hc:rC P o.op=some m) (R:Rel cx E σ a w) (hn:σ.ob[nx]?=some kP) (h:(oW σ nx m).2.2):nR P cx E a w o (oW σ nx m).1 {σ with ob:=σ.ob.set nx (oW σ nx m).2.1}:=by
 unfold oW at h⊢;split at h
 ·rename_i T z
  refine xxl R (o:=⟨.box false T,true,0,z⟩) (fun _=>xa7 hc R (by simp [dV])) rfl rfl ?_ hn;simp only [Ob.scp];exact V.scp_pure _ _ (yfm (yhw hc))
 ·rename_i T x
  obtain⟨y,e1,hx⟩:=xuy hc;refine xxl R (o:=⟨.box false T,true,0,x.ev σ⟩) (fun _=>xa7 hc R h) rfl rfl ?_ hn;simp only [Ob.scp];have:=(dX R hx).scp
  rwa [R.len] at this
 ·rename_i e s z m ps
  obtain⟨T,qs,i,b1,b2,b3,b4,b5,b6,b7,b8,rfl⟩:=xuz hc;cases hp:V.pures (kG (List.replicate m z) (gB σ ps)) with
  |true=>exact xlc R (o:=⟨.row e,true,0,.arr i.size (kG (List.replicate m z) (gB σ ps))⟩) (fun _=>xu4 R b1 b2 b3 b4 b5 b6 b7 b8 h hp) rfl rfl rfl hn
  |false=>
   obtain⟨k1,cs,k2⟩:=xu2 R b1 b2 b3 b4 b5 b6 b7 b8 h;refine xlc R (o:=⟨.rows false e,true,0,.arr i.size (kG (List.replicate m z) (gB σ ps))⟩) (fun _=>k1) rfl rfl ?_ hn;simp only [Ob.scp,V.scp];have:=k2.scp
   rwa [R.len] at this
 ·rename_i e s b z x y
  have:=xa7 hc R;simp only [dV] at this;cases e1:x.ev σ<;>simp only [e1] at h this⊢
  cases e2:y.ev σ<;>simp only [e2] at h this⊢
  exact xlc R (o:=⟨.row e,true,0,_⟩) (fun _=>this h) rfl rfl rfl hn
 ·rename_i e s b x y
  have:=xa7 hc R;simp only [dV,xci] at this;cases e1:x.ev σ<;>simp only [e1] at h this⊢
  exact xlc R (o:=⟨.row e,true,0,_⟩) (fun _=>this h) rfl rfl rfl hn
 ·exact h.elim
theorem xjp {o:Oper} {x:V} {σ':AS} {S:Value→World→Prop} (h:nR P cx E a w o x σ') (hS:∀v w' E',Leads E w E' w'→RdT E' w' x v→Rel cx E' σ' a w'→S v w'):pO P o a w S:=by
 obtain⟨v,w',E',hr,L,hx,R⟩:=h;unfold pO;rcases hr with hr|⟨hr,rfl⟩
 ·rw [hr];exact hS v w' E' L hx R
 ·rw [hr];exact hS _ w' E' L hx R
theorem yst {o:Oper} {m:POp} (hc:xbp P o.op=some m) (R:Rel cx E σ a w) (h:(iF σ m).2) {S:Value→World→Prop} (hS:∀v,RdT E w (iF σ m).1 v→S v w):pO P o a w S:=by
 obtain⟨v,hr,hx⟩:=ybh hc R h;unfold pO;rw [hr];exact hS v hx
theorem yhv {op:Op} {m:POp} (h:rU P op=some (.p m)) (hb:m≠.bad):xbp P op=some m:=by
 unfold rU at h;split at h
 ·rename_i e;cases h;exact e
 ·split at h
  ·cases h
  ·split at h
   ·split at h
    ·split at h
     ·simp at h
     ·cases h;exact absurd rfl hb
    ·cases h;exact absurd rfl hb
   ·simp at h
   ·cases h;exact absurd rfl hb
theorem xg6 {op:Op} {m:MOp} (h:rU P op=some (.m m)):rC P op=some m:=by
 unfold rU at h;split at h
 ·cases h
 ·split at h
  ·rename_i e;cases h;exact e
  ·split at h
   ·split at h
    ·split at h
     ·simp at h
     ·cases h
    ·cases h
   ·simp at h
   ·cases h
theorem wC {o:Oper} {f:FuncId} {xs:List X} (h:rU P o.op=some (.call f xs)) (a:Act):∃as:List Operand,vF as=some xs∧∀w,(execOp a.eval o).run P w=.ok (.enter f (as.map a.eval).toArray) w:=by
 unfold rU at h;split at h
 ·cases h
 split at h
 ·cases h
 split at h
 ·rename_i f' as ats e1
  split at h
  ·rename_i fn hfn
   split at h
   ·rename_i hcnd
    simp only [Bool.and_eq_true] at hcnd;simp only [Option.map_eq_some_iff,RK.call.injEq] at h;obtain⟨ys',hys,rfl,rfl⟩:=h;refine⟨as.toList,hys,fun w=>?_⟩;have e2:(as.toList.map a.eval).toArray=as.map a.eval:=by rw [←Array.toList_map,Array.toArray_toList]
    rw [e2];simp only [execOp,e1,resolve,Act.eval,Deferred.ofValue,Sem.run_bind,Sem.run_pure,Result.andThen_ok,invoke];rw [xn7 hfn hcnd.1 hcnd.2];simp
   ·cases h
  ·cases h
 ·simp at h
 ·cases h
end
end Rdn.Dp
namespace Rdn.Dp
open Go Go.RowKit Rdn
def ResOkM (w w':World) (S:Nat→Prop) (b0:Nat) (T:TypeId) (x:V) (obs:List Ob) (d:V) (v:Value):Prop:=
 ∃E',(∀b,E'.B b→S b∨w.heap.size≤b)∧¬E'.B b0∧(∀o∈obs,o.live=true∧o.g=0∧∃e,o.k=.row e)∧Rel ⟨w,(· =b0),S⟩ E' ⟨1,[(0,x)],obs⟩ ⟨#[v],[]⟩ w'∧d.pure=true∧∃cs:List Value,w'.heap[b0]?=some (.cells cs.toArray T (0,0))∧RdV E' w' d cs
def FncM (P:Program) (f:FuncId) (T:TypeId) (d:V) (xs:List V) (R:V→List Ob→V→Prop):Prop:=
 ∀(w:World) (S:Nat→Prop) (b0:Nat),(∀b,S b→b<w.heap.size∧b≠b0)→∀cs:List Value,w.heap[b0]?=some (.cells cs.toArray T (0,0))→RdV (lY S) w d cs→∀vs,RdTs (lY S) w xs vs→
  Calls P f (.pointer (some ⟨b0,0,none⟩)::vs).toArray w fun e w'=>∃x obs d' v,R x obs d'∧e=.returned v∧ResOkM w w' S b0 T x obs d' v
section
variable {cx:Cx} {E:Env} {σ:AS} {a:Act} {w w':World} {P:Program}
theorem OkO.wrRow {o:Ob} {u:Value} (h:OkO cx E w o u) {e:TypeId} (hk:o.k=.row e) {b:Nat} (hb:aP u=some b):cx.W.heap.size≤b:=by
 unfold OkO at h;rw [hk] at h;obtain⟨s,l,xs,h1,h2,h3,h4,h5,h6,h7,h8⟩:=h;rcases h6.2 with ⟨rfl,_⟩|⟨g,cap,cur,rfl,k1,k2,k3⟩
 ·simp [aP] at hb
 ·simp only [aP,Option.some.injEq] at hb
  subst hb;exact k1
theorem Rel.backM (R:Rel cx E σ a w) {r:Nat} {o:Ob} {q:Bool} {T:TypeId} (hr:σ.ob[r]?=some o) (hk:o.k=.box q T) (hl:o.live=true) {u0:Value} (hu:E.ref[r]?=some (o.g,u0)) {b0:Nat} (hb0:aP u0=some b0) {x d:V} {obs:List Ob} {v:Value} (h:ResOkM w w' E.B b0 T x obs d v):
  ∃E',Leads E w E' w'∧RdT E' w' (x.shift σ.ob.length) v∧Rel cx E' {σ with ob:=σ.ob.set r {o with v:=d}++obs.map (Ob.shift σ.ob.length)} a w':=by
 obtain⟨E1,hE1,hnb,hobs,R1,hdp,cs',hh',hd'⟩:=h;have hlen1:E1.ref.length=obs.length:=R1.len;obtain⟨u1,p1,p2⟩:=R.ob r o hr;rw [hu] at p1;injection p1 with p1
 injection p1 with _ p1
 subst p1;have hEb:¬E.B b0:=p2.live_B hl hb0;have hbk:∀b,b<w.heap.size→b≠b0→w'.heap[b]?=w.heap[b]?:=fun b hb hne=>R1.keep.block b hb hne;have hBk:∀b,E.B b→w'.heap[b]?=w.heap[b]?:=fun b hb=>hbk b (R.lt b hb) (fun e=>hEb (e▸hb));have L:Leads E w ⟨fun b=>E.B b∨E1.B b,E.F,E.ref++E1.ref⟩ w':=by
  refine⟨fun b hb=>⟨.inl hb,hBk b hb⟩,fun _ h=>h,by simp,fun r g u hr h=>⟨g,u,?_,Nat.le_refl _,fun _=>rfl⟩⟩;have h:(E.ref++E1.ref)[r]?=some (g,u):=h;rw [List.getElem?_append_left hr] at h;exact h
 have hwW:cx.W.heap.size≤w.heap.size:=R.keep.size;have hF:∀b,E1.F b→E.F b:=fun b hb=>by
  have:=(R1.fr b).1 hb;exact(R.fr b).2 (Nat.le_trans hwW this)
 have hrr:∀r,r<E1.ref.length→(E.ref++E1.ref)[σ.ob.length+r]?=E1.ref[r]?:=fun r hr=>by
  rw [List.getElem?_append_right (by rw [R.len];omega),R.len,Nat.add_sub_cancel_left]
 have rl:r<σ.ob.length:=(List.getElem?_eq_some_iff.1 hr).1;have oldo:∀(r':Nat) (o':Ob),r'<σ.ob.length→r≠r'→(σ.ob.set r {o with v:=d}++obs.map (Ob.shift σ.ob.length))[r']?=some o'→σ.ob[r']?=some o':=by
  intro r' o' hlt hne h;rw [List.getElem?_append_left (by simpa using hlt),List.getElem?_set_ne hne] at h;exact h
 have same:∀(o':Ob),(σ.ob.set r {o with v:=d}++obs.map (Ob.shift σ.ob.length))[r]?=some o'→o'={o with v:=d}:=by
  intro o' h;rw [List.getElem?_append_left (by simpa using rl),List.getElem?_set_self rl] at h;exact(Option.some.inj h).symm
 have newo:∀(r':Nat) (o':Ob),¬r'<σ.ob.length→(σ.ob.set r {o with v:=d}++obs.map (Ob.shift σ.ob.length))[r']?=some o'→∃o1,obs[r'-σ.ob.length]?=some o1∧o'=o1.shift σ.ob.length:=by
  intro r' o' hlt h;rw [List.getElem?_append_right (by simp;omega),List.getElem?_map,Option.map_eq_some_iff,List.length_set] at h;obtain⟨o1,h,rfl⟩:=h;exact⟨o1,h,rfl⟩
 have refo:∀(r':Nat) x,r'<σ.ob.length→(E.ref++E1.ref)[r']?=some x→E.ref[r']?=some x:=by
  intro r' x hlt h
  rwa [List.getElem?_append_left (by rw [R.len];exact hlt)] at h
 have refn:∀(r':Nat) x,¬r'<σ.ob.length→(E.ref++E1.ref)[r']?=some x→E1.ref[r'-σ.ob.length]?=some x:=by
  intro r' x hlt h
  rwa [List.getElem?_append_right (by rw [R.len];omega),R.len] at h
 refine⟨⟨fun b=>E.B b∨E1.B b,E.F,E.ref++E1.ref⟩,L,?_,R.df,R.n,fun i=>(R.tm i).mono L,by simp [R.len,hlen1],fun r' o' hr'=>?_,fun r1 r2 o1 o2 g1 g2 u1 u2 b h1 h2 h3 h4 h5 h6 h7 h8 h9=>?_,fun b hb=>?_,R.fr,fun b hb hlt=>?_,⟨R1.keep.os.trans R.keep.os,R1.keep.tape.trans R.keep.tape,R1.keep.output.trans R.keep.output,Nat.le_trans R.keep.size R1.keep.size,fun k hk' hn=>(R1.keep.block k (Nat.lt_of_lt_of_le hk' R.keep.size) (fun e=>?_)).trans (R.keep.block k hk' hn)⟩⟩
 ·have:=R1.tm 0
  simp only [aV,if_true] at this;exact xso (E0:=⟨fun b=>E.B b∨E1.B b,E.F,E.ref++E1.ref⟩) (fun b hb=> .inr hb) hF (by simp [R.len]) hrr (by simpa using this)
 ·by_cases hlt:r'<σ.ob.length
  ·by_cases e:r=r'
   ·subst e
    obtain rfl:=same o' hr';refine⟨u0,by rw [List.getElem?_append_left (by rw [R.len];exact hlt)];exact hu,?_⟩;unfold OkO at p2⊢;rw [hk] at p2;simp only [hk];obtain⟨b,cs,rfl,m1,m2,m3,m4⟩:=p2;simp only [aP,Option.some.injEq] at hb0;subst hb0;refine⟨b,cs',rfl,hh',xb9 (E0:=⟨fun b=>E.B b∨E1.B b,E.F,E.ref++E1.ref⟩) (fun b hb=> .inr hb) hF hdp hd',m3,?_⟩;rw [if_pos hl];exact fun h=>h.elim hEb hnb
   ·have h0:=oldo r' o' hlt e hr'
    obtain⟨u,k1,k2⟩:=R.ob r' o' h0;refine⟨u,by rw [List.getElem?_append_left (by rw [R.len];exact hlt)];exact k1,k2.keep L (fun b hb=>?_) (fun hl' b hb hn hB=>?_)⟩
    ·refine hbk b (k2.blk_lt hb) (fun eb=>?_)
     subst eb;cases hl1:o'.live with
     |true=>exact R.sep r r' o o' o.g o'.g u0 u b e hr h0 hl hl1 hu k1 hb0 hb
     |false=>
      refine hEb ?_;unfold OkO at k2;split at k2
      ·obtain⟨b',cs,rfl,q2,_,_,q5⟩:=k2
       simp only [aP,Option.some.injEq] at hb;subst hb;rw [hl1] at q5;simp only [Bool.false_eq_true,if_false] at q5;exact q5.1
      ·obtain⟨s,l,xs,q1,q2,q3,q4,q5,q6,q7,q8⟩:=k2
       have:=q8 b hb;rw [hl1] at this;simpa using this
      ·rw [k2.1] at hl1;cases hl1
    ·rcases hB with hB|hB
     ·exact hn hB
     ·rcases hE1 b hB with h|h
      ·exact hn h
      ·have:=k2.blk_lt hb
       omega
  ·obtain⟨o1,h0,rfl⟩:=newo r' o' hlt hr'
   obtain⟨u,k1,k2⟩:=R1.ob _ o1 h0;refine⟨u,by rw [List.getElem?_append_right (by rw [R.len];omega),R.len];exact k1,?_⟩;obtain⟨hl1,hg1,e,hke⟩:=hobs o1 (List.mem_of_getElem? h0);have hwr:∀b,aP u=some b→w.heap.size≤b:=fun b hb=>k2.wrRow hke hb;have hnB:∀b,aP u=some b→¬E1.B b→¬(E.B b∨E1.B b):=by
    intro b hb hn hB;rcases hB with hB|hB
    ·have:=R.lt b hB
     have:=hwr b hb;omega
    ·exact hn hB
   unfold OkO at k2⊢;rw [hke] at k2;simp only [Ob.shift,hke];obtain⟨s,l,xs,m1,m2,m3,m4,m5,m6,m7,m8⟩:=k2;refine⟨s,l,xs,by rw [m1];simp only [V.shift,V.shifts_pure _ l m2],m2,m3,m4,m5,⟨m6.1,?_⟩,xh9 (E0:=⟨fun b=>E.B b∨E1.B b,E.F,E.ref++E1.ref⟩) (fun b hb=> .inr hb) hF m2 m7,fun b hb=>?_⟩
   ·rcases m6.2 with h|⟨g,cap,cur,e1,e2,e3⟩
    ·exact .inl h
    ·exact .inr ⟨g,cap,cur,e1,Nat.le_trans hwW e2,e3⟩
   ·have:=m8 b hb
    rw [hl1] at this;simp only [if_true] at this;rw [if_pos hl1];exact hnB b hb this
 ·
  have info:∀(r1:Nat) (o1:Ob) (g1:Nat) (u1:Value),(σ.ob.set r {o with v:=d}++obs.map (Ob.shift σ.ob.length))[r1]?=some o1→(E.ref++E1.ref)[r1]?=some (g1,u1)→
    (r1<σ.ob.length∧∃o',σ.ob[r1]?=some o'∧o'.live=o1.live∧E.ref[r1]?=some (g1,u1))∨(¬r1<σ.ob.length∧∃o',obs[r1-σ.ob.length]?=some o'∧o'.live=o1.live∧E1.ref[r1-σ.ob.length]?=some (g1,u1)):=by
   intro r1 o1 g1 u1 q1 q2;by_cases hlt:r1<σ.ob.length
   ·by_cases e:r=r1
    ·subst e
     obtain rfl:=same o1 q1;exact .inl ⟨hlt,o,hr,rfl,refo _ _ hlt q2⟩
    ·exact .inl ⟨hlt,o1,oldo _ _ hlt e q1,rfl,refo _ _ hlt q2⟩
   ·obtain⟨o',k1,rfl⟩:=newo _ _ hlt q1
    exact .inr ⟨hlt,o',k1,rfl,refn _ _ hlt q2⟩
  have oldlt:∀(r1:Nat) (o':Ob) (g1:Nat) (u1:Value),σ.ob[r1]?=some o'→E.ref[r1]?=some (g1,u1)→aP u1=some b→b<w.heap.size:=by
   intro r1 o' g1 u1 q1 q2 q3;obtain⟨u2,e1,e2⟩:=R.ob r1 o' q1;rw [q2] at e1;injection e1 with e1
   injection e1 with _ e1
   subst e1;exact e2.blk_lt q3
  have newge:∀(r1:Nat) (o':Ob) (g1:Nat) (u1:Value),obs[r1]?=some o'→E1.ref[r1]?=some (g1,u1)→aP u1=some b→w.heap.size≤b:=by
   intro r1 o' g1 u1 q1 q2 q3;obtain⟨u2,e1,e2⟩:=R1.ob r1 o' q1;rw [q2] at e1;injection e1 with e1
   injection e1 with _ e1
   subst e1;obtain⟨_,_,e,hke⟩:=hobs o' (List.mem_of_getElem? q1);exact e2.wrRow hke q3
  rcases info r1 o1 g1 u1 h2 h6 with ⟨c1,o1',d1,d2,d3⟩|⟨c1,o1',d1,d2,d3⟩
  ·rcases info r2 o2 g2 u2 h3 h7 with ⟨c2,o2',f1,f2,f3⟩|⟨c2,o2',f1,f2,f3⟩
   ·exact R.sep r1 r2 o1' o2' g1 g2 u1 u2 b h1 d1 f1 (by rw [d2];exact h4) (by rw [f2];exact h5) d3 f3 h8 h9
   ·have:=oldlt _ _ _ _ d1 d3 h8
    have:=newge _ _ _ _ f1 f3 h9;omega
  ·rcases info r2 o2 g2 u2 h3 h7 with ⟨c2,o2',f1,f2,f3⟩|⟨c2,o2',f1,f2,f3⟩
   ·have:=newge _ _ _ _ d1 d3 h8
    have:=oldlt _ _ _ _ f1 f3 h9;omega
   ·exact R1.sep _ _ o1' o2' g1 g2 u1 u2 b ω d1 f1 (by rw [d2];exact h4) (by rw [f2];exact h5) d3 f3 h8 h9
 ·rcases hb with hb|hb
  ·exact Nat.lt_of_lt_of_le (R.lt b hb) R1.keep.size
  ·exact R1.lt b hb
 ·rcases hb with hb|hb
  ·exact R.old b hb hlt
  ·rcases hE1 b hb with h|h
   ·exact R.old b h hlt
   ·omega
 ·subst e
  rcases p2.wr hb0 with h|h
  ·omega
  ·exact hn h
theorem Rel.outM {W:World} {S:Nat→Prop} {b0:Nat} (R:Rel ⟨W,(· =b0),S⟩ E σ a w) (hb0:b0<W.heap.size) {T:TypeId} {g0:Nat} {d:V} (h0:σ.ob[0]?=some ⟨.box true T,true,g0,d⟩) (hd:d.pure=true) {ids:List Nat} (ho:vP σ ids) {x:V} {v:Value} (hx:RdT E w x v) (hp:V.resOk σ x):ResOkM W w S b0 T (x.res σ ids) (yX σ ids) d v:=by
 obtain⟨u0,p1,p2⟩:=R.ob 0 _ h0;have hbox:∃cs:List Value,u0=.pointer (some ⟨b0,0,none⟩)∧w.heap[b0]?=some (.cells cs.toArray T (0,0))∧RdV E w d cs∧¬E.B b0:=by
  unfold OkO at p2;obtain⟨b,cs,m1,m2,m3,m4,m5⟩:=p2;simp only [if_true] at m4 m5;have m4:b=b0:=m4.1;subst m4;exact⟨cs,m1,m2,m3,m5⟩
 obtain⟨cs0,rfl,q1,q2,q3⟩:=hbox;refine⟨_,xrn R,fun hb=>?_,(R.outG ho hx hp R.keep).1,(R.outG ho hx hp R.keep).2,hd,cs0,q1,?_⟩
 ·rcases hb with hb|hb
  ·exact q3 hb
  ·have hb:W.heap.size≤b0:=hb.1
   omega
 ·exact xb9 (E0:=iK W w E ids) (fun b hb=> .inl hb) (xb6 R) hd q2
def ybz (P:Program) (f:FuncId) (W:World) (S:Nat→Prop) (b0:Nat) (T:TypeId) (R0:V→List Ob→V→Prop):Exit→Act→World→Prop:=fun e a w=>
 ∀fn,P.funcs[f]?=some fn→bodyPost P fn (fun e w'=>∃x obs d v,R0 x obs d∧e=.returned v∧ResOkM W w' S b0 T x obs d v) e a w
theorem xsz {f:FuncId} {W:World} {S:Nat→Prop} {b0:Nat} {T:TypeId} {R0:V→List Ob→V→Prop} {n0 N n:Nat} {m:MC} {rs:List POp} {k:List It} {t:List (Nat×V)} {ob:List Ob} {y z d:V} {g0:Nat} {c:Prop} {obs:List Ob} (hb0:b0<W.heap.size) (hc:gU P f=some (n0,m,rs)) (ids:List Nat) (hv:nK ⟨n,t,ob⟩ rs=(y,c)) (hcc:c) (ho:vP ⟨n,t,ob⟩ ids) (hp:V.resOk ⟨n,t,ob⟩ y) (hz:y.res ⟨n,t,ob⟩ ids=z)
  (hobs:yX ⟨n,t,ob⟩ ids=obs) (h0:ob[0]?=some ⟨.box true T,true,g0,d⟩) (hd:d.pure=true) (h:R0 z obs d):Ev P ⟨W,(· =b0),S⟩ N (ybz P f W S b0 T R0) (.code .ret::k) ⟨n,t,ob⟩:=by
 subst hz hobs;refine xgb fun E a w R fn hfn=>?_;unfold gU at hc;rw [hfn] at hc;simp only at hc;split at hc
 ·split at hc
  ·rename_i h1 h2
   simp only [Option.some.injEq,Prod.mk.injEq] at hc;obtain⟨_,_,rfl⟩:=hc;obtain⟨v,k1,k2⟩:=xfk R h2 (by rw [hv];exact hcc);rw [hv] at k2;exact bodyPost_ret k1 R.df ⟨_,_,_,v,h,rfl,R.outM hb0 h0 hd ho k2 hp⟩
  ·cases hc
 ·cases hc
theorem FncM.intro {f:FuncId} {n:Nat} {m:MC} {rs:List POp} {T:TypeId} {d:V} {xs:List V} {R0:V→List Ob→V→Prop} (hc:gU P f=some (n,m,rs)) (hx:xs.length+1≤n)
  (h:∀W S b0,b0<W.heap.size→Ev P ⟨W,(· =b0),S⟩ n (ybz P f W S b0 T R0) [.code m] ⟨n,ents 0 (.ptr 0 0 [] 0::xs),[⟨.box true T,true,0,d⟩]⟩):FncM P f T d xs R0:=by
 intro W S b0 hS cs hcs hdr vs hvs;have hc':=hc;unfold gU at hc;split at hc
 ·rename_i fn hfn
  split at hc
  ·rename_i c hb
   split at hc
   ·rename_i h1 h2
    simp only [Option.some.injEq,Prod.mk.injEq] at hc;obtain⟨rfl,rfl,rfl⟩:=hc;refine calls_of_wp hfn hb ?_;have hl:=xhc hvs;have L:Leads (lY S) W ⟨S,fun b=>W.heap.size≤b,[(0,.pointer (some ⟨b0,0,none⟩))]⟩ W:=⟨fun b hb=>⟨hb,rfl⟩,fun _ h=>h.elim,by simp [lY],fun r g u hr=>by simp [lY] at hr⟩;have hptr:RdT ⟨S,fun b=>W.heap.size≤b,[(0,.pointer (some ⟨b0,0,none⟩))]⟩ W (.ptr 0 0 [] 0) (.pointer (some ⟨b0,0,none⟩)):=xj8 (g':=0) (u:=.pointer (some ⟨b0,0,none⟩)) rfl rfl;have hall:RdTs ⟨S,fun b=>W.heap.size≤b,[(0,.pointer (some ⟨b0,0,none⟩))]⟩ W (.ptr 0 0 [] 0::xs) (.pointer (some ⟨b0,0,none⟩)::vs):=by
     simp only [RdTs];exact⟨_,_,rfl,hptr,hvs.mono L⟩
    have R:Rel ⟨W,(· =b0),S⟩ ⟨S,fun b=>W.heap.size≤b,[(0,.pointer (some ⟨b0,0,none⟩))]⟩ ⟨fn.ntmps,ents 0 (.ptr 0 0 [] 0::xs),[⟨.box true T,true,0,d⟩]⟩ {tmps:=(Value.pointer (some ⟨b0,0,none⟩)::vs).toArray++Array.replicate (fn.ntmps-(Value.pointer (some ⟨b0,0,none⟩)::vs).toArray.size) undef,defers:=[]} W:=by
     refine⟨rfl,by simp [hl];omega,fun j=>?_,rfl,fun r o hr=>?_,fun r r' o o' g g' u u' b hne hr hr'=>?_,fun b hb=>(hS b hb).1,fun b=>Iff.rfl,fun b hb _=>hb,Keep.refl _ _⟩
     ·rw [xhg,if_pos (Nat.zero_le _),Nat.sub_zero]
      have:=xjn j hall;by_cases hj:j<(Value.pointer (some ⟨b0,0,none⟩)::vs).length
      ·have e:((Value.pointer (some ⟨b0,0,none⟩)::vs).toArray++Array.replicate (fn.ntmps-(Value.pointer (some ⟨b0,0,none⟩)::vs).toArray.size) undef).getD j undef=(Value.pointer (some ⟨b0,0,none⟩)::vs).getD j undef:=by
        have hj':j<(Value.pointer (some ⟨b0,0,none⟩)::vs).toArray.size:=by simpa using hj
        simp only [Array.getD_eq_getD_getElem?,Array.getElem?_append,hj',if_true];simp [List.getD_eq_getElem?_getD]
       rw [e];exact this
      ·have e:(V.ptr 0 0 [] 0::xs).getD j .junk=.junk:=by
        have:xs.length+1≤j:=by simp at hj;omega
        simp [List.getD_eq_getElem?_getD,List.getElem?_eq_none (show(V.ptr 0 0 [] 0::xs).length≤j by simpa using this)]
       simp only;rw [e];simp only [RdT]
     ·cases r with
      |zero=>
       simp only [List.getElem?_cons_zero,Option.some.injEq] at hr;subst hr;refine⟨_,rfl,?_⟩;unfold OkO;exact⟨b0,cs,rfl,hcs,hdr.mono L,by rw [if_pos rfl];exact⟨rfl,fun h=>by have h1:W.heap.size+b0<W.heap.size:=(hS _ h).1;omega⟩,by simp only [if_true];exact fun hb=>(hS b0 hb).2 rfl⟩
      |succ r=>simp at hr
     ·have h1:=(List.getElem?_eq_some_iff.1 hr).1
      have h2:=(List.getElem?_eq_some_iff.1 hr').1;simp at h1 h2;omega
    have:=(h W S b0 (xcr hcs)).h rfl _ _ _ R;rw [rP] at this;refine wp_mono (this c h1) fun e a w hq=>?_;cases e with
    |normal=>simp only [lT,oH] at hq;exact hq fn hfn
    |exit id=>simp only [lT,pG] at hq;exact hq fn hfn
    |goto l=>exact hq fn hfn
    |ret=>exact hq fn hfn
    |panic c=>exact hq fn hfn
    |outgrown=>exact hq fn hfn
   ·cases hc
  ·cases hc
 ·cases hc
theorem xu8 (R:Rel cx E σ a w) {f:FuncId} {as:List Operand} {xs:List X} (hxs:vF as=some xs) {r g:Nat} {ws ys:List V} {q:Bool} {T:TypeId} {dc d:V} {R0:V→List Ob→V→Prop} (hF:FncM P f T d ys R0) (hx:xs.map (X.ev σ)=.ptr r g [] 0::ws) (hob:σ.ob[r]?=some ⟨.box q T,true,g,dc⟩)
  (hdp:dc.pure=true) (hd:dc.low=d) (hwp:V.pures ws=true) (hys:V.lows ws=ys):
  Calls P f (as.map a.eval).toArray w fun e w'=>∃x obs d' v,R0 x obs d'∧e=.returned v∧∃E',Leads E w E' w'∧RdT E' w' (x.shift σ.ob.length) v∧Rel cx E' {σ with ob:=σ.ob.set r ⟨.box q T,true,g,d'⟩++obs.map (Ob.shift σ.ob.length)} a w':=by
 subst hd hys;have hr:=yD R hxs;rw [hx] at hr;simp only [RdTs] at hr;obtain⟨v0,vs,he,h1,h2⟩:=hr;rw [he];obtain⟨ob,u,b,zs,k1,k2,k3,k4,k5,k6,k7,k8,k9⟩:=xfg R h1 (by simp [oN,hob]);rw [hob] at k1;obtain rfl:=Option.some.inj k1;have k10:=k5;unfold OkO at k5;simp only at k5;obtain⟨b',cs,rfl,m1,m2,m3,m4⟩:=k5;simp only [aP,Option.some.injEq] at k6;subst k6;simp only [if_true] at m4;subst k7;have hS:∀b,E.B b→b<w.heap.size∧b≠b':=fun b hb=>⟨R.lt b hb,fun e=>m4 (e▸hb)⟩;refine(hF w E.B b' hS cs m1 (xa2 (E:=E) (E0:=lY E.B) (fun _ h=>h) hdp m2) vs (xir (E:=E) (E0:=lY E.B) (fun _ h=>h) hwp h2)).mono ?_
 rintro e w' ⟨x,obs,d',v,hR,rfl,hres⟩
 obtain⟨E',L,hx',R'⟩:=R.backM hob rfl rfl k4 (b0:=b') rfl hres;exact⟨x,obs,d',v,hR,rfl,E',L,hx',R'⟩
theorem xfr {N:Nat} {Q:Exit→Act→World→Prop} {k:List It} {n:Nat} {t:List (Nat×V)} {ob:List Ob} {l:List RO} {gd:Option (Nat×Bool)} {i:Nat} {f:FuncId} {xs:List X} {r g:Nat} {ws ys:List V} {q:Bool} {T:TypeId} {dc d:V} {R0:V→List Ob→V→Prop} (hF:FncM P f T d ys R0) (hw:bQ ⟨n,t,ob⟩ gd=some true)
  (hx:xs.map (X.ev ⟨n,t,ob⟩)=.ptr r g [] 0::ws) (hob:ob[r]?=some ⟨.box q T,true,g,dc⟩) (hdp:dc.pure=true) (hd:dc.low=d) (hwp:V.pures ws=true) (hys:V.lows ws=ys)
  (h:∀x obs d',R0 x obs d'→EvR P cx N Q k l ⟨n,(i,x.shift ob.length)::t,ob.set r ⟨.box q T,true,g,d'⟩++obs.map (Ob.shift ob.length)⟩):EvR P cx N Q k (⟨some i,gd,.call f xs⟩::l) ⟨n,t,ob⟩:=by
 refine⟨fun hn E a w R ops os hcc=>?_⟩;obtain⟨o,os',rfl,h1,h2⟩:=kX hcc;obtain⟨k1,k2,k3,k4⟩:=kY h1;obtain⟨as,hxs,hrun⟩:=wC k1 a;unfold wpList;rw [if_pos (uH R k2 hw)];refine .inl ?_;unfold Oper.wp;rw [hrun w,Oper.upon_enter];refine(xu8 R hxs hF hx hob hdp hd hwp hys).mono ?_
 rintro e w' ⟨x,obs,d',v,hR,rfl,E',L,hx',R'⟩
 show wpList P ops (lT P cx N Q k) os' (a.put o.dst v) w';rw [show o.dst=some i from k3];exact(h x obs d' hR).h hn E' _ w' (R'.put (d:=some i) (fun j hj=>by show j<n;rw [show n=N from hn];exact k4 j hj) hx') ops os' h2
theorem Rel.froze {n:Nat} {t:List (Nat×V)} {ob:List Ob} (R:Rel cx E ⟨n,t,ob⟩ a w) {i r g e s:Nat} {q:List V} (hi:aV t i=.own r g) (ho:ob[r]?=some ⟨.row e,true,g,.arr s q⟩):∃E',Rel cx E' ⟨n,(i,.sl true s q)::t,ob.set r ⟨.row e,false,g,.arr s q⟩⟩ a w:=by
 have hv:RdT E w (aV t i) (a.tmps.getD i undef):=R.tm i;rw [hi] at hv;obtain⟨e',lv,s',l,xs,q1,q2,q3,q4,q5,q6,q7,q8,q9,q10,q11⟩:=xeb R hv (by simp [bT,ho]);have q1:ob[r]?=some ⟨.row e',lv,g,.arr s' l⟩:=q1;rw [ho] at q1;injection q1 with q1
 injection q1 with h1 h2 h3 h4
 injection h1 with h1
 injection h4 with h4 h5
 subst h1 h2 h4 h5;have hlt:=q9.lt;have hsl:∃A c,a.tmps.getD i undef=.slice A q.length c∧q.length≤c:=by
  rcases q9.2 with ⟨hv,hn⟩|⟨b,cap,cur,hv,_,_,hc,_⟩
  ·exact⟨none,0,by rw [hv,hn],ω⟩
  ·exact⟨_,_,hv,hc⟩
 obtain⟨A,c,e1,hc⟩:=hsl;have hbk:∀b,aP (a.tmps.getD i undef)=some b→(a.tmps.getD i undef).ownBlock=some b:=by
  intro b hb;rw [e1] at hb⊢;cases A with
  |none=>simp [aP] at hb
  |some aa=>simpa [aP,Value.ownBlock] using hb
 obtain⟨L,R'⟩:=R.freeze (r:=r) (o:=⟨.row e,true,g,.arr s q⟩) ho q4 (fun b hb=>⟨(hlt b (hbk b hb)).1,trivial⟩);have hup:((⟨n,t,ob⟩:AS).upd r Ob.freeze)=⟨n,t,ob.set r ⟨.row e,false,g,.arr s q⟩⟩:=by simp [AS.upd,ho,Ob.freeze]
 rw [hup] at R';refine⟨_,R'.df,R'.n,fun j=>?_,R'.len,R'.ob,R'.sep,R'.lt,R'.fr,R'.old,R'.keep⟩;simp only [aV];split
 ·rename_i ej
  subst ej;simp only [RdT,RdV];refine⟨q5,q6,A,c,by rw [e1],hc,q8,fun h0=>?_⟩;rcases q9.2 with ⟨hv,hn⟩|⟨b,cap,cur,hv,m1,m2,m3,m4,m5,m6⟩
  ·omega
  ·rw [e1] at hv
   injection hv with hv1 hv2 hv3
   subst hv1;refine⟨b,0,xs,rfl,.inr (by rw [e1];rfl),fun _=>(R.fr b).2 m1,q10.mono L,fun j v hv=>?_⟩;rw [←m6,List.getElem?_take] at hv;split at hv
   ·simpa [World.cell?,m2] using hv
   ·cases hv
 ·exact R'.tm j
theorem xwb {N:Nat} {Q:Exit→Act→World→Prop} {k:List It} {n:Nat} {t:List (Nat×V)} {ob:List Ob} {l:List RO} (i:Nat) {r g e s:Nat} {q:List V} (hi:aV t i=.own r g) (ho:ob[r]?=some ⟨.row e,true,g,.arr s q⟩) (h:EvR P cx N Q k l ⟨n,(i,.sl true s q)::t,ob.set r ⟨.row e,false,g,.arr s q⟩⟩):EvR P cx N Q k l ⟨n,t,ob⟩:=by
 refine⟨fun hn E a w R=>?_⟩;obtain⟨E',R'⟩:=R.froze hi ho;exact h.h hn E' a w R'
theorem xpa {N:Nat} {Q:Exit→Act→World→Prop} {k:List It} {n:Nat} {t:List (Nat×V)} {ob:List Ob} (i:Nat) {r g e s:Nat} {q:List V} (hi:aV t i=.own r g) (ho:ob[r]?=some ⟨.row e,true,g,.arr s q⟩) (h:Ev P cx N Q k ⟨n,(i,.sl true s q)::t,ob.set r ⟨.row e,false,g,.arr s q⟩⟩):Ev P cx N Q k ⟨n,t,ob⟩:=by
 refine⟨fun hn E a w R=>?_⟩;obtain⟨E',R'⟩:=R.froze hi ho;exact h.h hn E' a w R'
end
end Rdn.Dp
namespace Rdn.Dp
open Go Go.RowKit Rdn
def V.isInt:V→Bool
 | .int _ _=>true
 |_=>false
theorem xgl {E E':Env} {w w':World}:∀{l:List V} {xs:List Value},l.all V.isInt=true→RdL E w l xs→RdL E' w' l xs
 |[],xs,_,h=>by simp only [RdL] at h⊢;exact h
 |x::l,xs,hp,h=>by
  simp only [List.all_cons,Bool.and_eq_true] at hp;simp only [RdL] at h⊢;obtain⟨c,ys,h1,h2,h3⟩:=h;refine⟨c,ys,h1,?_,xgl hp.2 h3⟩;cases x<;>simp [V.isInt] at hp
  simp only [RdV] at h2⊢;exact h2
theorem xx9:∀{l:List V},l.all V.isInt=true→V.pures l=true
 |[],_=>rfl
 |x::l,hp=>by
  simp only [List.all_cons,Bool.and_eq_true] at hp;simp only [V.pures,xx9 hp.2,Bool.and_true];cases x<;>simp [V.isInt] at hp
  rfl
theorem xb7 {w:World} {m base e s n:Nat} {v:Value} {xs:List Value} (h:w.ownsRow m e s v n xs) (hb:∀b,aP v=some b→base≤b):w.ownsRow base e s v n xs:=by
 refine⟨h.1,?_⟩;rcases h.2 with h|⟨g,cap,cur,rfl,e2,e3⟩
 ·exact .inl h
 ·exact .inr ⟨g,cap,cur,rfl,hb _ rfl,e3⟩
theorem ybq {w:World} {m e s n:Nat} {v:Value} {xs:List Value} (h:w.ownsRow m e s v n xs):v.oneCell'=true:=by
 rcases h.2 with ⟨rfl,_⟩|⟨g,cap,cur,rfl,e2,e3⟩<;>rfl
def xth (w w':World) (v0:Value) (e s:Nat) (l:List V) (v:Value):Prop:=
 l.all V.isInt=true∧Unif s l∧0<s∧l.length≤140737488355328∧Keep (fun b=>aP v0=some b) w w'∧∃xs,w'.ownsRow 0 e s v l.length xs∧RdL (lY fun _=>False) w' l xs∧∀b,aP v=some b→w.heap.size≤b∨aP v0=some b
def FncA (P:Program) (f:FuncId) (e s:Nat) (l:List V) (xs:List V) (R:List V→Prop):Prop:=
 ∀(w:World) (S:Nat→Prop) (v0:Value) (zs:List Value),(∀b,S b→b<w.heap.size∧aP v0≠some b)→l.all V.isInt=true→Unif s l→0<s→l.length≤140737488355328→w.ownsRow 0 e s v0 l.length zs→RdL (lY S) w l zs→∀vs,RdTs (lY S) w xs vs→
  Calls P f (v0::vs).toArray w fun x w'=>∃l' v,R l'∧x=.returned v∧xth w w' v0 e s l' v
def yby (P:Program) (f:FuncId) (W:World) (v0:Value) (e s:Nat) (R0:List V→Prop):Exit→Act→World→Prop:=fun x a w=>
 ∀fn,P.funcs[f]?=some fn→bodyPost P fn (fun x w'=>∃l' v,R0 l'∧x=.returned v∧xth W w' v0 e s l' v) x a w
section
variable {P:Program} {cx:Cx} {E:Env} {σ:AS} {a:Act} {w:World}
theorem ykl {f:FuncId} {W:World} {S:Nat→Prop} {v0:Value} {R0:List V→Prop} {n0 N n:Nat} {m:MC} {rs:List POp} {k:List It} {t:List (Nat×V)} {ob:List Ob} {e s g:Nat} {l:List V} {c:Prop} (hc:gU P f=some (n0,m,rs)) (hv:nK ⟨n,t,ob⟩ rs=(.own 0 g,c)) (hcc:c)
  (h0:ob[0]?=some ⟨.rows true e,true,g,.arr s l⟩) (hi:l.all V.isInt=true) (h:R0 l):Ev P ⟨W,(fun b=>aP v0=some b),S⟩ N (yby P f W v0 e s R0) (.code .ret::k) ⟨n,t,ob⟩:=by
 refine xgb fun E a w R fn hfn=>?_;unfold gU at hc;rw [hfn] at hc;simp only at hc;split at hc
 ·split at hc
  ·rename_i h1 h2
   simp only [Option.some.injEq,Prod.mk.injEq] at hc;obtain⟨_,_,rfl⟩:=hc;obtain⟨v,k1,k2⟩:=xfk R h2 (by rw [hv];exact hcc);rw [hv] at k2;obtain⟨u,p1,p2⟩:=R.ob 0 _ h0;have hu:v=u:=by
    simp only [RdT,RdV] at k2;obtain⟨v',e1,e2,e3,e4⟩:=k2;simp only [List.cons.injEq,and_true] at e1;subst e1;exact(e4 g u p1).2 rfl
   subst hu;unfold OkO at p2;obtain⟨_,s',l',xs,q1,q2,q3,q4,q5,q6,q7⟩:=p2;injection q1 with c1 c2
   subst c1 c2;exact bodyPost_ret k1 R.df ⟨l,v,h,rfl,hi,q2,q3,q4,R.keep,xs,q5,xgl hi q6,fun b hb=>(q7 b hb).2⟩
  ·cases hc
 ·cases hc
theorem FncA.intro {f:FuncId} {n:Nat} {m:MC} {rs:List POp} {e s:Nat} {l:List V} {xs:List V} {R0:List V→Prop} (hc:gU P f=some (n,m,rs)) (hx:xs.length+1≤n)
  (h:l.all V.isInt=true→l.length≤140737488355328→∀W S v0,Ev P ⟨W,(fun b=>aP v0=some b),S⟩ n (yby P f W v0 e s R0) [.code m] ⟨n,ents 0 (.own 0 0::xs),[⟨.rows true e,true,0,.arr s l⟩]⟩):FncA P f e s l xs R0:=by
 intro W S v0 zs hS hi hU hs hlen hown hrd vs hvs;have hc':=hc;unfold gU at hc;split at hc
 ·rename_i fn hfn
  split at hc
  ·rename_i c hb
   split at hc
   ·rename_i h1 h2
    simp only [Option.some.injEq,Prod.mk.injEq] at hc;obtain⟨rfl,rfl,rfl⟩:=hc;refine calls_of_wp hfn hb ?_;have hl:=xhc hvs;have L:Leads (lY S) W ⟨S,fun b=>W.heap.size≤b,[(0,v0)]⟩ W:=⟨fun b hb=>⟨hb,rfl⟩,fun _ h=>h.elim,by simp [lY],fun r g u hr=>by simp [lY] at hr⟩;have hptr:RdT ⟨S,fun b=>W.heap.size≤b,[(0,v0)]⟩ W (.own 0 0) v0:=by
     simp only [RdT,RdV];refine⟨v0,rfl,ybq hown,by simp,fun gc u h=>?_⟩;simp only [List.getElem?_cons_zero,Option.some.injEq,Prod.mk.injEq] at h;exact⟨Nat.zero_le _,fun _=>h.2⟩
    have hall:RdTs ⟨S,fun b=>W.heap.size≤b,[(0,v0)]⟩ W (.own 0 0::xs) (v0::vs):=by
     simp only [RdTs];exact⟨_,_,rfl,hptr,hvs.mono L⟩
    have R:Rel ⟨W,(fun b=>aP v0=some b),S⟩ ⟨S,fun b=>W.heap.size≤b,[(0,v0)]⟩ ⟨fn.ntmps,ents 0 (.own 0 0::xs),[⟨.rows true e,true,0,.arr s l⟩]⟩ {tmps:=(v0::vs).toArray++Array.replicate (fn.ntmps-(v0::vs).toArray.size) undef,defers:=[]} W:=by
     refine⟨rfl,by simp [hl];omega,fun j=>?_,rfl,fun r o hr=>?_,fun r r' o o' g g' u u' b hne hr hr'=>?_,fun b hb=>(hS b hb).1,fun b=>Iff.rfl,fun b hb _=>hb,Keep.refl _ _⟩
     ·rw [xhg,if_pos (Nat.zero_le _),Nat.sub_zero]
      have:=xjn j hall;by_cases hj:j<(v0::vs).length
      ·have e:((v0::vs).toArray++Array.replicate (fn.ntmps-(v0::vs).toArray.size) undef).getD j undef=(v0::vs).getD j undef:=by
        have hj':j<(v0::vs).toArray.size:=by simpa using hj
        simp only [Array.getD_eq_getD_getElem?,Array.getElem?_append,hj',if_true];simp [List.getD_eq_getElem?_getD]
       rw [e];exact this
      ·have e:(V.own 0 0::xs).getD j .junk=.junk:=by
        have:xs.length+1≤j:=by simp at hj;omega
        simp [List.getD_eq_getElem?_getD,List.getElem?_eq_none (show(V.own 0 0::xs).length≤j by simpa using this)]
       simp only;rw [e];simp only [RdT]
     ·cases r with
      |zero=>
       simp only [List.getElem?_cons_zero,Option.some.injEq] at hr;subst hr;refine⟨_,rfl,?_⟩;unfold OkO;exact⟨rfl,s,l,zs,rfl,hU,hs,hlen,hown,xgl hi hrd,fun b hb=>⟨fun hb'=>(hS b hb').2 hb,.inr hb⟩⟩
      |succ r=>simp at hr
     ·have h1:=(List.getElem?_eq_some_iff.1 hr).1
      have h2:=(List.getElem?_eq_some_iff.1 hr').1;simp at h1 h2;omega
    have:=(h hi hlen W S v0).h rfl _ _ _ R;rw [rP] at this;refine wp_mono (this c h1) fun e a w hq=>?_;cases e with
    |normal=>simp only [lT,oH] at hq;exact hq fn hfn
    |exit id=>simp only [lT,pG] at hq;exact hq fn hfn
    |goto l=>exact hq fn hfn
    |ret=>exact hq fn hfn
    |panic c=>exact hq fn hfn
    |outgrown=>exact hq fn hfn
   ·cases hc
  ·cases hc
 ·cases hc
theorem xu6 (R:Rel cx E σ a w) {f:FuncId} {as:List Operand} {xs:List X} (hxs:vF as=some xs) {r g:Nat} {ws ys:List V} {kk:OK} {e s:Nat} {l:List V} {R0:List V→Prop} (hF:FncA P f e s l ys R0) (hx:xs.map (X.ev σ)=.own r g::ws) (hob:σ.ob[r]?=some ⟨kk,true,g,.arr s l⟩) (hk:kk=.row e∨∃q,kk=.rows q e)
  (hi:l.all V.isInt=true) (hwp:V.pures ws=true) (hys:V.lows ws=ys):
  Calls P f (as.map a.eval).toArray w fun x w'=>∃l' v,R0 l'∧x=.returned v∧l'.all V.isInt=true∧∃E',Leads E w E' w'∧RdT E' w' (.own r (g+1)) v∧Rel cx E' {σ with ob:=σ.ob.set r ⟨kk,true,g+1,.arr s l'⟩} a w':=by
 subst hys;have hr:=yD R hxs;rw [hx] at hr;simp only [RdTs] at hr;obtain⟨v0,vs,he,h1,h2⟩:=hr;rw [he];obtain⟨u,p1,p2⟩:=R.ob r _ hob;have hu:v0=u:=by
  simp only [RdT,RdV] at h1;obtain⟨v',e1,e2,e3,e4⟩:=h1;simp only [List.cons.injEq,and_true] at e1;subst e1;exact(e4 g u p1).2 rfl
 subst hu;have hrl:r<E.ref.length:=(List.getElem?_eq_some_iff.1 p1).1;have hwr:∀b,aP v0=some b→cx.W.heap.size≤b∨cx.lent b:=fun b hb=>p2.wr hb;have hlb:∀b,aP v0=some b→¬E.B b:=fun b hb=>p2.live_B rfl hb;have info:∃zs,Unif s l∧0<s∧l.length≤140737488355328∧w.ownsRow (kk.base cx.W.heap.size) e s v0 l.length zs∧RdL E w l zs:=by
  unfold OkO at p2;rcases hk with rfl|⟨q,rfl⟩
  ·obtain⟨s',l',zs,q1,q2,q3,q4,q5,q6,q7,q8⟩:=p2
   injection q1 with c1 c2
   subst c1 c2;exact⟨zs,q3,q4,q5,q6,q7⟩
  ·obtain⟨_,s',l',zs,q1,q3,q4,q5,q6,q7,q8⟩:=p2
   injection q1 with c1 c2
   subst c1 c2;exact⟨zs,q3,q4,q5,q6,q7⟩
 obtain⟨zs,q3,q4,q5,q6,q7⟩:=info;refine(hF w E.B v0 zs (fun b hb=>⟨R.lt b hb,fun h=>hlb b h hb⟩) hi q3 q4 q5 (xb7 q6 fun _ _=>Nat.zero_le _) (xgl hi q7) vs (xir (E:=E) (E0:=lY E.B) (fun _ h=>h) hwp h2)).mono ?_
 rintro x w' ⟨l',v,hR,rfl,m1,m2,m3,m4,m5,xs',m6,m7,m8⟩
 have hB:∀b,aP v=some b→¬E.B b:=fun b hb hB'=>by
  rcases m8 b hb with h|h
  ·have:=R.lt b hB'
   omega
  ·exact hlb b h hB'
 have hW:cx.W.heap.size≤w.heap.size:=R.keep.size;have hOk:OkO cx {E with ref:=E.ref.set r (g+1,v)} w' ⟨kk,true,g+1,.arr s l'⟩ v:=by
  rcases hk with rfl|⟨q,rfl⟩
  ·unfold OkO
   refine⟨s,l',xs',rfl,xx9 m1,m2,m3,m4,xb7 m6 fun b hb=>?_,xgl m1 m7,fun b hb=>?_⟩
   ·rcases m8 b hb with h|h
    ·omega
    ·exact p2.wrRow rfl h
   ·simp only [if_true]
    exact hB b hb
  ·unfold OkO
   refine⟨rfl,s,l',xs',rfl,m2,m3,m4,xb7 m6 fun b hb=>?_,xgl m1 m7,fun b hb=>⟨hB b hb,?_⟩⟩
   ·rcases m8 b hb with h|h
    ·exact Nat.le_trans (OK.base_le _ _) (Nat.le_trans hW h)
    ·rcases q6.2 with ⟨rfl,_⟩|⟨g',cap,cur,rfl,k1,k2⟩
     ·simp [aP] at h
     ·simp only [aP,Option.some.injEq] at h
      subst h;exact k1
   ·rcases m8 b hb with h|h
    ·exact .inl (Nat.le_trans hW h)
    ·exact hwr b h
 obtain⟨L',R'⟩:=R.touch (o':=⟨kk,true,g+1,.arr s l'⟩) (u':=v) hob rfl p1 m5 rfl (.inr rfl) (fun b hb=>(m8 b hb).symm) hOk;refine⟨l',v,hR,rfl,m1,_,L',?_,R'⟩;simp only [RdT,RdV];refine⟨_,rfl,ybq m6,by simpa using hrl,fun gc u h=>?_⟩;rw [List.getElem?_set_self hrl] at h;injection h with h
 injection h with h1 h2
 exact⟨ω,fun _=>h2⟩
theorem ykp {N:Nat} {Q:Exit→Act→World→Prop} {k:List It} {n:Nat} {t:List (Nat×V)} {ob:List Ob} {lr:List RO} {gd:Option (Nat×Bool)} {i:Nat} {f:FuncId} {xs:List X} {r g:Nat} {ws ys:List V} {kk:OK} {e s:Nat} {l l':List V} (hF:FncA P f e s l ys (· =l')) (hw:bQ ⟨n,t,ob⟩ gd=some true)
  (hx:xs.map (X.ev ⟨n,t,ob⟩)=.own r g::ws) (hob:ob[r]?=some ⟨kk,true,g,.arr s l⟩) (hk:kk=.row e∨∃q,kk=.rows q e) (hi:l.all V.isInt=true) (hwp:V.pures ws=true) (hys:V.lows ws=ys)
  (h:EvR P cx N Q k lr ⟨n,(i,.own r (g+1))::t,ob.set r ⟨kk,true,g+1,.arr s l'⟩⟩):EvR P cx N Q k (⟨some i,gd,.call f xs⟩::lr) ⟨n,t,ob⟩:=by
 refine⟨fun hn E a w R ops os hcc=>?_⟩;obtain⟨o,os',rfl,h1,h2⟩:=kX hcc;obtain⟨k1,k2,k3,k4⟩:=kY h1;obtain⟨as,hxs,hrun⟩:=wC k1 a;unfold wpList;rw [if_pos (uH R k2 hw)];refine .inl ?_;unfold Oper.wp;rw [hrun w,Oper.upon_enter];refine(xu6 R hxs hF hx hob hk hi hwp hys).mono ?_
 rintro x w' ⟨l2,v,rfl,rfl,hi',E',L,hx',R'⟩
 show wpList P ops (lT P cx N Q k) os' (a.put o.dst v) w';rw [show o.dst=some i from k3];exact h.h hn E' _ w' (R'.put (d:=some i) (fun j hj=>by show j<n;rw [show n=N from hn];exact k4 j hj) hx') ops os' h2
end
end Rdn.Dp
