import Derived.Test.YtbgpfigkcpmnfaaGreatA3
import Derived.LoopN
import Derived.Test.YtbgpfigkcpmnfaaGreatA1
set_option linter.unusedSimpArgs false
set_option linter.unusedVariables false
namespace Rdn.Dp
open Go Go.RowKit Rdn
section
variable {cx:Cx} {E:Env} {σ:AS} {a:Act} {w:World}
def outE (W w:World) (E:Env) (ids:List Nat):Env:=
 ⟨fun b=>E.B b∨(W.heap.size≤b∧b<w.heap.size∧∀r∈ids,∀g u,E.ref[r]?=some (g,u)→blk u≠some b),fun b=>W.heap.size≤b,ids.map fun r=>(0,((E.ref[r]?).map (·.2)).getD undef)⟩
def xiz (σ:AS) (ids:List Nat):Prop:=ids.Nodup∧∀r∈ids,∃e g s l,σ.ob[r]?=some ⟨.row e,true,g,.arr s l⟩
theorem outF (R:Rel cx E σ a w) {ids:List Nat}:∀b,E.F b→(outE cx.W w E ids).F b:=fun b hb=>(R.fr b).1 hb
theorem yhc (R:Rel cx E σ a w) {ids:List Nat} (ho:xiz σ ids) {r g:Nat} {v:Value} (h:RdT E w (.own r g) v) (hg:(rowV σ r g).2.2):RdV (outE cx.W w E ids) w (V.res σ ids (.own r g)) [v]:=by
 obtain⟨e',lv,s',l,xs,q1,q2,q3,q4,q5,q6,q7,q8,q9,q10,q11⟩:=xn1 R h hg;have hv1:v.oneCell'=true:=by simp only [RdT,RdV] at h;obtain⟨v',e,h,_⟩:=h;simp at e;subst e;exact h
 simp only [V.res];cases hi:ids.idxOf? r with
 |some i=>
  simp only [RdV];have hir:=List.idxOf?_eq_some_iff.1 hi;refine⟨v,rfl,hv1,?_,fun gc u hu=>?_⟩
  ·obtain⟨h1,h2⟩:=hir
   simp [outE];exact h1
  ·obtain⟨h1,h2,_⟩:=hir
   have:(outE cx.W w E ids).ref[i]?=some (0,v):=by simp [outE,h1,h2,q4]
   rw [this] at hu;injection hu with hu
   injection hu with hu1 hu2
   subst hu1;exact⟨Nat.le_refl _,fun _=>hu2⟩
 |none=>
  simp only [q2,q3,RdV];refine⟨q5,q6,?_⟩;rcases q9.2 with ⟨rfl,hn⟩|⟨b,cap,cur,rfl,m1,m2,m3,m4,m5,m6⟩
  ·exact⟨none,0,by rw [hn],by omega,by omega,fun h0=>by omega⟩
  ·refine⟨_,cap,rfl,m3,q8,fun h0=>⟨b,0,xs,rfl,.inr ⟨m1,xgx m2,fun r' hr' g' u' hu' hbu'=>?_⟩,fun _=>m1,xib (E0:=outE cx.W w E ids) (fun b hb=> .inl hb) (outF R) q5 q10,fun j v hv=>?_⟩⟩
   ·obtain⟨e2,g2,s2,l2,k1⟩:=ho.2 r' hr'
    have hne:r≠r':=by
     rintro rfl
     exact List.idxOf?_eq_none_iff.1 hi hr'
    obtain⟨u2,k2,k3⟩:=R.ob r' _ k1;rw [hu'] at k2;injection k2 with k2
    injection k2 with _ k2
    subst k2;cases lv with
    |true=>exact R.sep r r' _ _ g g' _ u' b hne q1 k1 rfl rfl q4 hu' rfl hbu'
    |false=>
     have:=q11 b rfl;simp only [Bool.false_eq_true,if_false] at this;exact k3.live_B rfl hbu' this
   ·rw [←m6,List.getElem?_take] at hv
    split at hv
    ·simpa [World.cell?,m2] using hv
    ·cases hv
mutual
theorem xhd (R:Rel cx E σ a w) {ids:List Nat} (ho:xiz σ ids):∀{x:V} {cs:List Value},V.resOk σ x→RdV E w x cs→RdV (outE cx.W w E ids) w (x.res σ ids) cs
 | .int k n,cs,_,h=>by simp only [RdV,V.res] at h⊢;exact h
 | .bool b,cs,_,h=>by simp only [RdV,V.res] at h⊢;exact h
 | .str b,cs,_,h=>by simp only [RdV,V.res] at h⊢;exact h
 | .nilS,cs,_,h=>by simp only [RdV,V.res] at h⊢;exact h
 | .agg l,cs,hp,h=>by simp only [V.resOk] at hp;simp only [RdV,V.res] at h⊢;exact xzj R ho hp h
 | .arr s l,cs,hp,h=>by simp only [V.res];exact xfj (E0:=outE cx.W w E ids) (fun b hb=> .inl hb) (outF R) (by simpa [V.resOk,V.pure] using hp) h
 | .sl t s l,cs,hp,h=>by simp only [V.res];exact xfj (E0:=outE cx.W w E ids) (fun b hb=> .inl hb) (outF R) rfl h
 | .own r g,cs,hp,h=>by
  have h':=h;simp only [RdV] at h';obtain⟨v,rfl,_⟩:=h';simp only [V.resOk] at hp;exact yhc R ho (by simpa only [RdT] using h) hp
 | .ptr r g p o,cs,hp,h=>by simp [V.resOk] at hp
 | .osl r g s a b,cs,hp,h=>by simp [V.resOk] at hp
 | .rp x,cs,hp,h=>by
  simp only [RdV,V.res] at h⊢;obtain⟨h1,b,o,xs,h2,h3,h4,h5⟩:=h;exact⟨h1,b,o,xs,h2,.inl h3,xfj (E0:=outE cx.W w E ids) (fun b hb=> .inl hb) (outF R) h1 h4,h5⟩
 | .fn f,cs,hp,h=>by simp only [RdV,V.res] at h⊢;exact h
 | .lit f,cs,hp,h=>by simp only [RdV,V.res] at h⊢;exact h
 | .tup l,cs,hp,h=>by simp only [RdV] at h
 | .clo f l,cs,hp,h=>by simp only [RdV] at h
 | .junk,cs,hp,h=>by simp only [RdV] at h
theorem xzj (R:Rel cx E σ a w) {ids:List Nat} (ho:xiz σ ids):∀{l:List V} {cs:List Value},V.ressOk σ l→RdL E w l cs→RdL (outE cx.W w E ids) w (V.ress σ ids l) cs
 |[],xs,_,h=>by simp only [RdL,V.ress] at h⊢;exact h
 |a::l,xs,hp,h=>by
  simp only [V.ressOk] at hp;simp only [RdL,V.ress] at h⊢;obtain⟨c,ys,h1,h2,h3⟩:=h;exact⟨c,ys,h1,xhd R ho hp.1 h2,xzj R ho hp.2 h3⟩
end
mutual
theorem xzi (R:Rel cx E σ a w) {ids:List Nat} (ho:xiz σ ids):∀{x:V} {v:Value},V.resOk σ x→RdT E w x v→RdT (outE cx.W w E ids) w (x.res σ ids) v
 | .int k n,v,hp,h=>by have:=xhd R ho hp (by simpa only [RdT] using h);simpa only [RdT,V.res] using this
 | .bool b,v,hp,h=>by have:=xhd R ho hp (by simpa only [RdT] using h);simpa only [RdT,V.res] using this
 | .str b,v,hp,h=>by have:=xhd R ho hp (by simpa only [RdT] using h);simpa only [RdT,V.res] using this
 | .nilS,v,hp,h=>by have:=xhd R ho hp (by simpa only [RdT] using h);simpa only [RdT,V.res] using this
 | .agg l,v,hp,h=>by
  simp only [RdT] at h;obtain⟨cs,rfl,h⟩:=h;have:=xhd R ho hp h;simp only [V.res] at this⊢;simp only [RdT];exact⟨cs,rfl,this⟩
 | .arr s l,v,hp,h=>by
  simp only [RdT] at h;obtain⟨cs,rfl,h⟩:=h;have:=xhd R ho hp h;simp only [V.res] at this⊢;simp only [RdT];exact⟨cs,rfl,this⟩
 | .sl t s l,v,hp,h=>by have:=xhd R ho hp (by simpa only [RdT] using h);simpa only [RdT,V.res] using this
 | .own r g,v,hp,h=>by
  have:=xhd R ho hp (by simpa only [RdT] using h);simp only [V.res] at this⊢;cases hi:ids.idxOf? r with
  |some i=>rw [hi] at this;simpa only [RdT] using this
  |none=>rw [hi] at this;simpa only [RdT] using this
 | .ptr r g p o,v,hp,h=>by simp [V.resOk] at hp
 | .osl r g s a b,v,hp,h=>by simp [V.resOk] at hp
 | .rp x,v,hp,h=>by have:=xhd R ho hp (by simpa only [RdT] using h);simpa only [RdT,V.res] using this
 | .fn f,v,hp,h=>by have:=xhd R ho hp (by simpa only [RdT] using h);simpa only [RdT,V.res] using this
 | .lit f,v,hp,h=>by have:=xhd R ho hp (by simpa only [RdT] using h);simpa only [RdT,V.res] using this
 | .tup l,v,hp,h=>by
  simp only [V.resOk] at hp;simp only [RdT,V.res] at h⊢;obtain⟨vs,h1,h2⟩:=h;exact⟨vs,h1,xp8 R ho hp h2⟩
 | .clo f l,v,hp,h=>by
  simp only [V.resOk] at hp;simp only [RdT,V.res] at h⊢;obtain⟨vs,h1,h2⟩:=h;exact⟨vs,h1.mono fun b hb=>⟨.inl hb,rfl⟩,xp8 R ho hp.1 h2⟩
 | .junk,v,hp,h=>by simp [V.resOk] at hp
theorem xp8 (R:Rel cx E σ a w) {ids:List Nat} (ho:xiz σ ids):∀{l:List V} {vs:List Value},V.ressOk σ l→RdTs E w l vs→RdTs (outE cx.W w E ids) w (V.ress σ ids l) vs
 |[],xs,_,h=>by simp only [RdTs,V.ress] at h⊢;exact h
 |a::l,xs,hp,h=>by
  simp only [V.ressOk] at hp;simp only [RdTs,V.ress] at h⊢;obtain⟨c,ys,h1,h2,h3⟩:=h;exact⟨c,ys,h1,xzi R ho hp.1 h2,xp8 R ho hp.2 h3⟩
end
def xgh (σ:AS) (ids:List Nat):List Ob:=ids.map fun r=>match σ.ob[r]? with|some o=>{o with g:=0}|none=>⟨.row 0,true,0,.junk⟩
theorem Rel.outG (R:Rel cx E σ a w) {ids:List Nat} (ho:xiz σ ids) {x:V} {v:Value} (hx:RdT E w x v) (hp:V.resOk σ x) {lent:Nat→Prop} (hk:Keep lent cx.W w):(∀o∈xgh σ ids,o.live=true∧o.g=0∧∃e,o.k=.row e)∧Rel ⟨cx.W,lent,cx.S⟩ (outE cx.W w E ids) ⟨1,[(0,x.res σ ids)],xgh σ ids⟩ ⟨#[v],[]⟩ w:=by
 have hob:∀(r:Nat) (o:Ob),(xgh σ ids)[r]?=some o→∃q,ids[r]?=some q∧∃e g s l u,σ.ob[q]?=some ⟨.row e,true,g,.arr s l⟩∧o=⟨.row e,true,0,.arr s l⟩∧E.ref[q]?=some (g,u)∧(outE cx.W w E ids).ref[r]?=some (0,u)∧OkO cx E w ⟨.row e,true,g,.arr s l⟩ u:=by
  intro r o hr;simp only [xgh,List.getElem?_map,Option.map_eq_some_iff] at hr;obtain⟨q,hq,hr⟩:=hr;obtain⟨e,g,s,l,h1⟩:=ho.2 q (List.mem_of_getElem? hq);rw [h1] at hr;obtain⟨u,k1,k2⟩:=R.ob q _ h1;exact⟨q,hq,e,g,s,l,u,h1,hr.symm,k1,by simp [outE,hq,k1],k2⟩
 refine⟨fun o hor=>?_,rfl,rfl,fun i=>?_,by simp [outE,xgh],fun r o hr=>?_,fun r r' o o' g g' u u' b h1 h2 h3 h4 h5 h6 h7 h8 h9=>?_,fun b hb=>?_,fun b=>Iff.rfl,fun b hb hlt=>?_,hk⟩
 ·obtain⟨r,hr⟩:=List.getElem?_of_mem hor
  obtain⟨q,_,e,g,s,l,u,_,rfl,_⟩:=hob r o hr;exact⟨rfl,rfl,e,rfl⟩
 ·cases i with
  |zero=>
   simp only [xae,if_true];have:=xzi R ho hp hx;simpa using this
  |succ i=>
   have:xae [(0,x.res σ ids)] (i+1)=.junk:=by simp [xae]
   rw [this];simp only [RdT]
 ·obtain⟨q,hq,e,g,s,l,u,k1,rfl,k4,k5,k6⟩:=hob r o hr
  refine⟨u,k5,?_⟩;have hlv:=fun b hb=>k6.live_B (b:=b) rfl hb;unfold OkO at k6⊢;simp only at k6⊢;obtain⟨s',l',xs,m1,m2,m3,m4,m5,m6,m7,m8⟩:=k6;injection m1 with m1 m1'
  subst m1 m1';refine⟨_,_,xs,rfl,m2,m3,m4,m5,m6,xib (E0:=outE cx.W w E ids) (fun b hb=> .inl hb) (outF R) m2 m7,fun b hb=>?_⟩;simp only [if_true];intro hB;rcases hB with hB|hB
  ·exact hlv b hb hB
  ·exact hB.2.2 q (List.mem_of_getElem? hq) g u k4 hb
 ·obtain⟨q,hq,e,g1,s,l,u1,k1,rfl,k4,k5,k6⟩:=hob r o h2
  obtain⟨q',hq',e',g2,s',l',u2,m1,rfl,m4,m5,m6⟩:=hob r' o' h3;have h6:(outE cx.W w E ids).ref[r]?=some (g,u):=h6;have h7:(outE cx.W w E ids).ref[r']?=some (g',u'):=h7;rw [k5] at h6;rw [m5] at h7;injection h6 with h6
  injection h6 with _ h6
  injection h7 with h7
  injection h7 with _ h7
  subst h6 h7;refine R.sep q q' _ _ g1 g2 u1 u2 b (fun e=>?_) k1 m1 rfl rfl k4 m4 h8 h9;subst e;exact h1 ((List.getElem?_inj (List.getElem?_eq_some_iff.1 hq).1 ho.1).1 (hq.trans hq'.symm))
 ·rcases hb with hb|hb
  ·exact R.lt b hb
  ·exact hb.2.1
 ·rcases hb with hb|hb
  ·exact R.old b hb hlt
  ·have:=hb.1
   have hlt:b<cx.W.heap.size:=hlt;omega
theorem xzf (R:Rel cx E σ a w) {ids:List Nat}:∀b,(outE cx.W w E ids).B b→cx.S b∨cx.W.heap.size≤b:=by
 intro b hb;rcases hb with hb|hb
 ·by_cases h:b<cx.W.heap.size
  ·exact .inl (R.old b hb h)
  ·exact .inr (by omega)
 ·exact .inr hb.1
theorem Rel.out {W:World} {S:Nat→Prop} (R:Rel ⟨W,fun _=>False,S⟩ E σ a w) {ids:List Nat} (ho:xiz σ ids) {x:V} {v:Value} (hx:RdT E w x v) (hp:V.resOk σ x):ResOk W w S (x.res σ ids) (xgh σ ids) v:=
 ⟨_,xzf R,fun o h=>⟨((R.outG ho hx hp R.keep).1 o h).1,((R.outG ho hx hp R.keep).1 o h).2.1⟩,(R.outG ho hx hp R.keep).2⟩
theorem Rel.outP {W:World} {S:Nat→Prop} (R:Rel ⟨W,fun _=>False,S⟩ E σ a w) {r g:Nat} {T:TypeId} {c:V} (h0:σ.ob[r]?=some ⟨.box false T,true,g,c⟩) (hc:c.pure=true) {v:Value} (hx:RdT E w (.ptr r g [] 0) v):ResOk W w S (.ptr 0 0 [] 0) [⟨.box false T,true,0,c⟩] v:=by
 obtain⟨u0,p1,p2⟩:=R.ob r _ h0;have p3:=p2;unfold OkO at p3;obtain⟨b,cs,rfl,m2,m3,m4,m5⟩:=p3;simp only [Bool.false_eq_true,if_false,if_true] at m4 m5;have hv:v=.pointer (some ⟨b,0,none⟩):=by
  simp only [RdT,RdV] at hx;obtain⟨v',e,_,_,h⟩:=hx;simp at e;subst e;obtain⟨_,h2⟩:=h g _ p1;obtain⟨b',e1,e2⟩:=h2 rfl;simp only [blk,Option.some.injEq] at e1;subst e1;exact e2
 subst hv;have hB:∀b',(E.B b')→S b'∨W.heap.size≤b':=fun b' hb=>by
  by_cases h:b'<W.heap.size
  ·exact .inl (R.old b' hb h)
  ·exact .inr (by omega)
 refine⟨⟨E.B,fun b=>W.heap.size≤b,[(0,.pointer (some ⟨b,0,none⟩))]⟩,hB,fun o ho=>?_,rfl,rfl,fun i=>?_,rfl,fun r o hr=>?_,fun r r' o o' g g' u u' b hne hr hr'=>?_,R.lt,fun b=>Iff.rfl,R.old,R.keep⟩
 ·simp at ho;subst ho;exact⟨rfl,rfl⟩
 ·cases i with
  |zero=>
   simp only [xae,if_true,RdT,RdV];refine⟨_,rfl,rfl,by simp,fun gc u h=>?_⟩;simp at h;obtain⟨h1,h2⟩:=h;subst h1 h2;exact⟨Nat.le_refl _,fun _=>⟨b,rfl,rfl⟩⟩
  |succ i=>
   have:xae [(0,V.ptr 0 0 [] 0)] (i+1)=.junk:=by simp [xae]
   rw [this];simp only [RdT]
 ·cases r with
  |zero=>
   simp only [List.getElem?_cons_zero,Option.some.injEq] at hr;subst hr;refine⟨_,rfl,?_⟩;unfold OkO;exact⟨b,cs,rfl,m2,xfj (E1:=E) (E0:=⟨E.B,fun b=>W.heap.size≤b,[(0,.pointer (some ⟨b,0,none⟩))]⟩) (fun _ h=>h) (fun b hb=>(R.fr b).1 hb) hc m3,by simpa using m4,by simpa using m5⟩
  |succ r=>simp at hr
 ·have h1:=(List.getElem?_eq_some_iff.1 hr).1
  have h2:=(List.getElem?_eq_some_iff.1 hr').1;simp at h1 h2;omega
end
end Rdn.Dp
namespace Rdn.Dp
open Go Go.RowKit Rdn
mutual
def V.ids:V→List Nat
 | .own r _=>[r]
 | .ptr r _ _ _=>[r]
 | .osl r _ _ _ _=>[r]
 | .agg l=>V.idss l
 | .tup l=>V.idss l
 | .clo f l=>V.idss l
 | .arr _ _=>[]
 | .sl _ _ _=>[]
 | .int _ _=>[]
 | .bool _=>[]
 | .str _=>[]
 | .nilS=>[]
 | .rp _=>[]
 | .fn _=>[]
 | .lit _=>[]
 | .junk=>[]
def V.idss:List V→List Nat
 |[]=>[]
 |x::l=>x.ids++V.idss l
end
def AS.frz (σ:AS):List Nat→AS
 |[]=>σ
 |r::l=>(σ.upd r Ob.freeze).frz l
def AS.calm (σ:AS) (i:Nat):AS:=match V.ids (xae σ.t i) with
 |[]=>σ
 |r::l=>⟨σ.n,(i,(xae σ.t i).res σ [])::σ.t,(σ.frz (r::l)).ob⟩
def xtv (σ:AS) (i:Nat):Prop:=match V.ids (xae σ.t i) with
 |[]=>True
 |_::_=>V.resOk σ (xae σ.t i)
def xm9:AS→List X→AS×Prop
 |σ,[]=>(σ,True)
 |σ,.c _::l=>xm9 σ l
 |σ,.t i::l=>((xm9 (σ.calm i) l).1,xtv σ i∧(xm9 (σ.calm i) l).2)
def yfj (σ:AS) (y:X):V→AS×Prop
 | .ptr r _ _ _=>match σ.ob[r]? with
  |some ⟨.row _,_,_,_⟩=>xm9 σ [y]
  |_=>(σ,True)
 |_=>(σ,True)
def xfk (σ:AS):MOp→AS×Prop
 | .buildS _ _ _ _ ps=>xm9 σ (ps.map (·.2))
 | .store _ x y=>yfj σ y (x.ev σ)
 | .box _ _=>(σ,True)
 | .alloc _ _=>(σ,True)
 | .build _ _ _=>(σ,True)
 | .sl _ _ _ _ _=>(σ,True)
 | .slA _ _ _ _ _ _=>(σ,True)
 | .mkS _ _ _ _ _ _=>(σ,True)
 | .app _ _ _ _ _=>(σ,True)
 | .bytes _=>(σ,True)
 | .copy _ _ _ _=>(σ,True)
 | .appz _ _ _ _ _ _=>(σ,True)
 | .mkM _=>(σ,True)
 | .ins _ _ _ _=>(σ,True)
 | .lk _ _ _=>(σ,True)
section
variable {cx:Cx} {E:Env} {σ:AS} {a:Act} {w:World}
theorem frz_t (l:List Nat):∀σ:AS,(σ.frz l).t=σ.t∧(σ.frz l).n=σ.n:=by
 induction l with
 |nil=>intro σ;exact⟨rfl,rfl⟩
 |cons r l ih=>intro σ;exact ih _
theorem xpr {σ:AS} {r r':Nat}:(σ.upd r Ob.freeze).ob[r']?=if r=r' then(σ.ob[r']?).map Ob.freeze else σ.ob[r']?:=by
 unfold AS.upd;cases h:σ.ob[r]? with
 |none=>
  simp only [];split
  ·rename_i e;subst e;rw [h];rfl
  ·rfl
 |some o=>
  have rl:r<σ.ob.length:=(List.getElem?_eq_some_iff.1 h).1;simp only [];split
  ·rename_i e;subst e;rw [List.getElem?_set_self rl,h];rfl
  ·rename_i e;rw [List.getElem?_set_ne e]
theorem yb2 {σ:AS} {r q g:Nat}:rowV (σ.upd r Ob.freeze) q g=rowV σ q g:=by
 unfold rowV;rw [xpr];by_cases e:r=q
 ·rw [if_pos e]
  cases h:σ.ob[q]? with
  |none=>rfl
  |some o=>
   obtain⟨k,lv,g',v⟩:=o;cases k<;>cases v<;>rfl
 ·rw [if_neg e]
mutual
theorem yb1 {r:Nat}:∀x:V,x.res (σ.upd r Ob.freeze) []=x.res σ []
 | .own q g=>by simp only [V.res,List.idxOf?_nil,yb2]
 | .agg l=>by simp only [V.res,xm0 l]
 | .tup l=>by simp only [V.res,xm0 l]
 | .clo f l=>by simp only [V.res,xm0 l]
 | .int _ _=>rfl
 | .bool _=>rfl
 | .str _=>rfl
 | .nilS=>rfl
 | .arr _ _=>rfl
 | .sl _ _ _=>rfl
 | .ptr _ _ _ _=>rfl
 | .osl _ _ _ _ _=>rfl
 | .rp _=>rfl
 | .fn _=>rfl
 | .lit _=>rfl
 | .junk=>rfl
theorem xm0 {r:Nat}:∀l:List V,V.ress (σ.upd r Ob.freeze) [] l=V.ress σ [] l
 |[]=>rfl
 |x::l=>by simp only [V.ress,yb1 x,xm0 l]
end
mutual
theorem xrr {r:Nat}:∀x:V,V.resOk (σ.upd r Ob.freeze) x=V.resOk σ x
 | .own q g=>by simp only [V.resOk,yb2]
 | .agg l=>by simp only [V.resOk,xig l]
 | .tup l=>by simp only [V.resOk,xig l]
 | .clo f l=>by simp only [V.resOk,xig l]
 | .int _ _=>rfl
 | .bool _=>rfl
 | .str _=>rfl
 | .nilS=>rfl
 | .arr _ _=>rfl
 | .sl _ _ _=>rfl
 | .ptr _ _ _ _=>rfl
 | .osl _ _ _ _ _=>rfl
 | .rp _=>rfl
 | .fn _=>rfl
 | .lit _=>rfl
 | .junk=>rfl
theorem xig {r:Nat}:∀l:List V,V.ressOk (σ.upd r Ob.freeze) l=V.ressOk σ l
 |[]=>rfl
 |x::l=>by simp only [V.ressOk,xrr x,xig l]
end
theorem xya (x:V):∀(l:List Nat) (σ:AS),x.res (σ.frz l) []=x.res σ []∧V.resOk (σ.frz l) x=V.resOk σ x
 |[],σ=>⟨rfl,rfl⟩
 |r::l,σ=>by
  obtain⟨h1,h2⟩:=xya x l (σ.upd r Ob.freeze);exact⟨h1.trans (yb1 x),h2.trans (xrr x)⟩
theorem Rel.frzs:∀(l:List Nat) {σ:AS} {E:Env},Rel cx E σ a w→(∀r∈l,∃e lv g v,σ.ob[r]?=some ⟨.row e,lv,g,v⟩)→
  ∃E',Rel cx E' (σ.frz l) a w∧(∀b,E.B b→E'.B b)∧(∀r∈l,∀o,(σ.frz l).ob[r]?=some o→o.live=false)
 |[],σ,E,R,_=>⟨E,R,fun _ h=>h,fun r hr=>by cases hr⟩
 |r::l,σ,E,R,h=>by
  obtain⟨e,lv,g,v,hr⟩:=h r (by simp);obtain⟨u,k1,k2⟩:=R.ob r _ hr;obtain⟨L,R1⟩:=R.freeze (r:=r) hr k1 (fun b hb=>⟨by
   unfold OkO at k2;obtain⟨s,l',xs,q1,q2,q3,q4,q5,q6,q7,q8⟩:=k2;rcases q6.2 with ⟨rfl,_⟩|⟨g',cap,cur,rfl,m1,m2,m3⟩
   ·simp [blk] at hb
   ·simp only [blk,Option.some.injEq] at hb
    subst hb;exact m1,trivial⟩)
  obtain⟨E',R2,hB,hl⟩:=Rel.frzs l R1 (fun q hq=>by
   obtain⟨e',lv',g',v',h1⟩:=h q (by simp [hq]);rw [xpr,h1];split
   ·exact⟨e',false,g',v',rfl⟩
   ·exact⟨e',lv',g',v',rfl⟩)
  refine⟨E',R2,fun b hb=>hB b (.inl hb),fun q hq o ho=>?_⟩;by_cases hql:q∈l
  ·exact hl q hql o ho
  ·have hqr:q=r:=by
    rcases List.mem_cons.1 hq with h|h
    ·exact h
    ·exact absurd h hql
   subst hqr;have keep:∀(l:List Nat) (σ:AS),(∀o,σ.ob[q]?=some o→o.live=false)→∀o,(σ.frz l).ob[q]?=some o→o.live=false:=by
    intro l
    induction l with
    |nil=>intro σ h;exact h
    |cons r' l ih=>
     intro σ h o ho;refine ih (σ.upd r' Ob.freeze) (fun o ho=>?_) o ho;rw [xpr] at ho;split at ho
     ·rw [Option.map_eq_some_iff] at ho
      obtain⟨o',_,rfl⟩:=ho;rfl
     ·exact h o ho
   refine keep l (σ.upd q Ob.freeze) (fun o ho=>?_) o ho;rw [xpr,if_pos rfl,hr] at ho;simp at ho;subst ho;rfl
theorem xln (R:Rel cx E σ a w) {r g:Nat} {v:Value} (h:RdT E w (.own r g) v) (hg:(rowV σ r g).2.2) (hf:∀o,σ.ob[r]?=some o→o.live=false):RdV E w (.sl true (rowV σ r g).1 (rowV σ r g).2.1) [v]:=by
 obtain⟨e',lv,s',l,xs,q1,q2,q3,q4,q5,q6,q7,q8,q9,q10,q11⟩:=xn1 R h hg;have hlv:=hf _ q1;simp only at hlv;subst hlv;rw [q2,q3];simp only [RdV];refine⟨q5,q6,?_⟩;rcases q9.2 with ⟨rfl,hn⟩|⟨b,cap,cur,rfl,m1,m2,m3,m4,m5,m6⟩
 ·exact⟨none,0,by rw [hn],by omega,by omega,fun h0=>by omega⟩
 ·refine⟨_,cap,rfl,m3,q8,fun h0=>⟨b,0,xs,rfl,by simpa using q11 b rfl,fun _=>(R.fr b).2 m1,q10,fun j v hv=>?_⟩⟩
  rw [←m6,List.getElem?_take] at hv;split at hv
  ·simpa [World.cell?,m2] using hv
  ·cases hv
mutual
theorem xs7 (R:Rel cx E σ a w):∀{x:V} {cs:List Value},V.resOk σ x→(∀r∈x.ids,∀o,σ.ob[r]?=some o→o.live=false)→RdV E w x cs→RdV E w (x.res σ []) cs
 | .own r g,cs,hp,hf,h=>by
  have h':=h;simp only [RdV] at h';obtain⟨v,rfl,_⟩:=h';simp only [V.resOk] at hp;simp only [V.res,List.idxOf?_nil];exact xln R (by simpa only [RdT] using h) hp (hf r (by simp [V.ids]))
 | .agg l,cs,hp,hf,h=>by simp only [V.resOk] at hp;simp only [V.ids] at hf;simp only [RdV,V.res] at h⊢;exact xtx R hp hf h
 | .arr s l,cs,hp,_,h=>h
 | .sl t s l,cs,hp,_,h=>h
 | .int k n,cs,_,_,h=>h
 | .bool b,cs,_,_,h=>h
 | .str b,cs,_,_,h=>h
 | .nilS,cs,_,_,h=>h
 | .ptr r g p o,cs,hp,_,h=>by simp [V.resOk] at hp
 | .osl r g s a b,cs,hp,_,h=>by simp [V.resOk] at hp
 | .rp x,cs,hp,_,h=>h
 | .fn f,cs,hp,_,h=>h
 | .lit f,cs,hp,_,h=>h
 | .tup l,cs,hp,_,h=>by simp only [RdV] at h
 | .clo f l,cs,hp,_,h=>by simp only [RdV] at h
 | .junk,cs,hp,_,h=>by simp only [RdV] at h
theorem xtx (R:Rel cx E σ a w):∀{l:List V} {cs:List Value},V.ressOk σ l→(∀r∈V.idss l,∀o,σ.ob[r]?=some o→o.live=false)→RdL E w l cs→RdL E w (V.ress σ [] l) cs
 |[],xs,_,_,h=>by simp only [RdL,V.ress] at h⊢;exact h
 |x::l,xs,hp,hf,h=>by
  simp only [V.ressOk] at hp;simp only [V.idss,List.mem_append] at hf;simp only [RdL,V.ress] at h⊢;obtain⟨c,ys,h1,h2,h3⟩:=h;exact⟨c,ys,h1,xs7 R hp.1 (fun r hr=>hf r (.inl hr)) h2,xtx R hp.2 (fun r hr=>hf r (.inr hr)) h3⟩
end
mutual
theorem xtw (R:Rel cx E σ a w):∀{x:V} {v:Value},V.resOk σ x→(∀r∈x.ids,∀o,σ.ob[r]?=some o→o.live=false)→RdT E w x v→RdT E w (x.res σ []) v
 | .own r g,v,hp,hf,h=>by
  have:=xs7 R hp hf (by simpa only [RdT] using h);simp only [V.res,List.idxOf?_nil] at this⊢;simpa only [RdT] using this
 | .agg l,v,hp,hf,h=>by
  simp only [RdT] at h;obtain⟨cs,rfl,h⟩:=h;have:=xs7 R hp hf h;simp only [V.res] at this⊢;simp only [RdT];exact⟨cs,rfl,this⟩
 | .tup l,v,hp,hf,h=>by
  simp only [V.resOk] at hp;simp only [V.ids] at hf;simp only [RdT,V.res] at h⊢;obtain⟨vs,h1,h2⟩:=h;exact⟨vs,h1,xma R hp hf h2⟩
 | .clo f l,v,hp,hf,h=>by
  simp only [V.resOk] at hp;simp only [V.ids] at hf;simp only [RdT,V.res] at h⊢;obtain⟨vs,h1,h2⟩:=h;exact⟨vs,h1,xma R hp.1 hf h2⟩
 | .arr s l,v,hp,_,h=>h
 | .sl t s l,v,hp,_,h=>h
 | .int k n,v,_,_,h=>h
 | .bool b,v,_,_,h=>h
 | .str b,v,_,_,h=>h
 | .nilS,v,_,_,h=>h
 | .ptr r g p o,v,hp,_,h=>by simp [V.resOk] at hp
 | .osl r g s a b,v,hp,_,h=>by simp [V.resOk] at hp
 | .rp x,v,hp,_,h=>h
 | .fn f,v,hp,_,h=>h
 | .lit f,v,hp,_,h=>h
 | .junk,v,hp,_,h=>by simp [V.resOk] at hp
theorem xma (R:Rel cx E σ a w):∀{l:List V} {vs:List Value},V.ressOk σ l→(∀r∈V.idss l,∀o,σ.ob[r]?=some o→o.live=false)→RdTs E w l vs→RdTs E w (V.ress σ [] l) vs
 |[],xs,_,_,h=>by simp only [RdTs,V.ress] at h⊢;exact h
 |x::l,xs,hp,hf,h=>by
  simp only [V.ressOk] at hp;simp only [V.idss,List.mem_append] at hf;simp only [RdTs,V.ress] at h⊢;obtain⟨c,ys,h1,h2,h3⟩:=h;exact⟨c,ys,h1,xtw R hp.1 (fun r hr=>hf r (.inl hr)) h2,xma R hp.2 (fun r hr=>hf r (.inr hr)) h3⟩
end
mutual
theorem xu9:∀{x:V},V.resOk σ x→∀r∈x.ids,∃e lv g v,σ.ob[r]?=some ⟨.row e,lv,g,v⟩
 | .own q g,hp,r,hr=>by
  simp only [V.ids,List.mem_singleton] at hr;subst hr;simp only [V.resOk] at hp;obtain⟨e,lv,s,l,h1,_⟩:=xjr hp;exact⟨e,lv,g,_,h1⟩
 | .agg l,hp,r,hr=>by simp only [V.resOk] at hp;simp only [V.ids] at hr;exact xje hp r hr
 | .tup l,hp,r,hr=>by simp only [V.resOk] at hp;simp only [V.ids] at hr;exact xje hp r hr
 | .clo f l,hp,r,hr=>by simp only [V.resOk] at hp;simp only [V.ids] at hr;exact xje hp.1 r hr
 | .arr s l,hp,r,hr=>by simp [V.ids] at hr
 | .sl t s l,hp,r,hr=>by simp [V.ids] at hr
 | .int k n,_,r,hr=>by simp [V.ids] at hr
 | .bool b,_,r,hr=>by simp [V.ids] at hr
 | .str b,_,r,hr=>by simp [V.ids] at hr
 | .nilS,_,r,hr=>by simp [V.ids] at hr
 | .ptr q g p o,hp,r,hr=>by simp [V.resOk] at hp
 | .osl q g s a b,hp,r,hr=>by simp [V.resOk] at hp
 | .rp x,hp,r,hr=>by simp [V.ids] at hr
 | .fn f,hp,r,hr=>by simp [V.ids] at hr
 | .lit f,hp,r,hr=>by simp [V.ids] at hr
 | .junk,hp,r,hr=>by simp [V.resOk] at hp
theorem xje:∀{l:List V},V.ressOk σ l→∀r∈V.idss l,∃e lv g v,σ.ob[r]?=some ⟨.row e,lv,g,v⟩
 |[],_,r,hr=>by simp [V.idss] at hr
 |x::l,hp,r,hr=>by
  simp only [V.ressOk] at hp;simp only [V.idss,List.mem_append] at hr;rcases hr with hr|hr
  ·exact xu9 hp.1 r hr
  ·exact xje hp.2 r hr
end
theorem Rel.calm1 (R:Rel cx E σ a w) {i:Nat} (h:xtv σ i):∃E',Rel cx E' (σ.calm i) a w:=by
 unfold xtv at h;unfold AS.calm;split at h
 ·exact⟨E,R⟩
 ·rename_i r l e
  have hrows:=xu9 h;rw [e] at hrows;obtain⟨E',R',_,hl⟩:=Rel.frzs (r::l) R hrows;have ht:=frz_t (r::l) σ;refine⟨E',R'.df,?_,fun j=>?_,R'.len,R'.ob,R'.sep,R'.lt,R'.fr,R'.old,R'.keep⟩
  ·rw [R'.n,ht.2]
  ·simp only [xae]
   split
   ·rename_i ej
    subst ej;have h1:=R'.tm i;rw [ht.1] at h1;have h2:=xya (xae σ.t i) (r::l) σ;have h3:=xtw R' (x:=xae σ.t i) (by rw [h2.2];exact h) (by rw [e];exact hl) h1;rw [h2.1] at h3;exact h3
   ·have h1:=R'.tm j
    rw [ht.1] at h1;exact h1
theorem yj5 (i:Nat):(σ.calm i).n=σ.n:=by
 unfold AS.calm;split<;>rfl
theorem Rel.calmL:∀(l:List X) {σ:AS} {E:Env},Rel cx E σ a w→(xm9 σ l).2→∃E',Rel cx E' (xm9 σ l).1 a w∧(xm9 σ l).1.n=σ.n
 |[],σ,E,R,_=>⟨E,R,rfl⟩
 | .c _::l,σ,E,R,h=>Rel.calmL l R h
 | .t i::l,σ,E,R,h=>by
  obtain⟨E1,R1⟩:=R.calm1 h.1;obtain⟨E2,R2,h2⟩:=Rel.calmL l R1 h.2;exact⟨E2,R2,h2.trans (yj5 i)⟩
theorem Rel.calmO (R:Rel cx E σ a w) {m:MOp} (h:(xfk σ m).2):∃E',Rel cx E' (xfk σ m).1 a w∧(xfk σ m).1.n=σ.n:=by
 unfold xfk at h⊢;split at h
 ·exact Rel.calmL _ R h
 ·unfold yfj at h⊢
  split at h
  ·split at h
   ·exact Rel.calmL _ R h
   ·exact⟨E,R,rfl⟩
  ·exact⟨E,R,rfl⟩
 all_goals exact⟨E,R,rfl⟩
end
end Rdn.Dp
namespace Rdn.Dp
open Go Go.RowKit Rdn
inductive RK where
 |p (m:POp)
 |m (m:MOp)
 |call (f:FuncId) (xs:List X)
 |callv (x:X) (xs:List X)
structure RO where
 d:Option Nat
 gd:Option (Nat×Bool)
 k:RK
inductive MC where
 |skip
 |reg (l:List RO)
 |dreg (l:List RO) (B:List (List Nat))
 |seq (a b:MC)
 |cond (x:X) (a b:MC)
 |block (id:Nat) (c:MC)
 |loop (c:MC)
 |exit (id:Nat)
 |ret
 |bad
section
variable (P:Program)
def xg8 (op:Op):Option RK:=
 match xnk P op with
 |some m=>some (.p m)
 |none=>match xg0 P op with
  |some m=>some (.m m)
  |none=>match op with
   | .call {callee:=.value (.func f),args:=as,..}=>match P.funcs[f]? with
    | some fn => if fn.body.isSome && fn.name != "runtime.NumGoroutine" then (xev as.toList).map (.call f) else some (.p .bad)
    |none=>some (.p .bad)
   | .call {callee:=.value (.tmp i),args:=as,..}=>(xev as.toList).map (.callv (.t i))
   |_=>some (.p .bad)
def xvq (ops:Array Oper):Option (Nat×Bool)→Option (Option (Nat×Bool))
 |none=>some none
 |some (j,b)=>match (ops[j]?).bind (·.dst) with
  |some t=>some (some (t,b))
  |none=>none
def ybl (n:Nat) (ops:Array Oper) (o:Oper):Option RO:=
 match xg8 P o.op,xvq ops o.guard with
 |some k,some g=>if o.dst.all (· <n) then some ⟨o.dst,g,k⟩ else none
 |_,_=>none
def xk4 (n:Nat) (ops:Array Oper):List Oper→Option (List RO)
 |[]=>some []
 |o::l=>match ybl P n ops o,xk4 n ops l with
  |some r,some m=>some (r::m)
  |_,_=>none
def comp (n:Nat):Code→Option MC
 | .skip=>some .skip
 | .region _ ops draw=>match xk4 P n ops ops.toList with
  |some l=>if draw then(if xzw ops (relB ops) then some (.dreg l (relB ops)) else none) else some (.reg l)
  |none=>none
 | .seq a b=>match comp n a,comp n b with
  |some x,some y=>some (.seq x y)
  |_,_=>none
 | .cond c a b=>match xb2 c,comp n a,comp n b with
  |some z,some x,some y=>some (.cond z x y)
  |_,_,_=>none
 | .block id c=>(comp n c).map (.block id)
 | .loop c=>(comp n c).map .loop
 | .exit id=>some (.exit id)
 | .ret=>some .ret
 |_=>some .bad
end
inductive It where
 |code (m:MC)
 |inBlock (id:Nat)
 |goal (J:AS→Prop)
 |rounds (m:MC) (n:Nat)
section
variable (P:Program) (cx:Cx) (N:Nat) (Q:Exit→Act→World→Prop)
mutual
def wpS:List It→Act→World→Prop
 |[],a,w=>Q .normal a w
 | .code m::k,a,w=>∀c,comp P N c=some m→c.wp P (fun e=>match e with| .normal=>wpS k| .exit id=>xfe k id|e=>Q e) a w
 | .inBlock id::k,a,w=>wpS k a w
 | .goal J::k,a,w=>∃E σ,J σ∧σ.n=N∧Rel cx E σ a w
 | .rounds m n::k,a,w=>∀c,comp P N c=some m→Code.rounds P c (fun e=>match e with| .normal=>wpS k| .exit id=>xfe k id|e=>Q e) n a w
def xfe:List It→Nat→Act→World→Prop
 |[],id,a,w=>Q (.exit id) a w
 | .inBlock id'::k,id,a,w=>if id=id' then wpS k a w else xfe k id a w
 | .code _::k,id,a,w=>xfe k id a w
 | .goal _::k,id,a,w=>xfe k id a w
 | .rounds _ _::k,id,a,w=>xfe k id a w
end
def onX (k:List It):Exit→Act→World→Prop
 | .normal=>wpS P cx N Q k
 | .exit id=>xfe P cx N Q k id
 |e=>Q e
structure Ev (k:List It) (σ:AS):Prop where
 h:σ.n=N→∀E a w,Rel cx E σ a w→wpS P cx N Q k a w
def xrc (id:Nat):List It→Option (List It)
 |[]=>none
 | .inBlock id'::k=>if id=id' then some k else xrc id k
 | .code _::k=>xrc id k
 | .goal _::k=>xrc id k
 | .rounds _ _::k=>xrc id k
structure EvR (k:List It) (l:List RO) (σ:AS):Prop where
 h:σ.n=N→∀E a w,Rel cx E σ a w→∀ops os,xk4 P N ops os=some l→wpList P ops (onX P cx N Q k) os a w
end
section
variable {P:Program} {cx:Cx} {N:Nat} {Q:Exit→Act→World→Prop} {k:List It} {σ:AS}
theorem xy4 {id:Nat} {k':List It} (h:xrc id k=some k'):xfe P cx N Q k id=wpS P cx N Q k':=by
 induction k with
 |nil=>cases h
 |cons i k ih=>
  cases i with
  |inBlock id'=>
   simp only [xrc] at h;funext a w;simp only [xfe];split at h
   ·rename_i e;cases h;rw [if_pos e]
   ·rename_i e;rw [if_neg e,ih h]
  |code m=>funext a w;simp only [xfe,ih h]
  |goal J=>funext a w;simp only [xfe,ih h]
  |rounds m n=>funext a w;simp only [xfe,ih h]
theorem xbo {m:MC} {a:Act} {w:World}:wpS P cx N Q (.code m::k) a w=∀c,comp P N c=some m→c.wp P (onX P cx N Q k) a w:=by
 simp only [wpS];have e:(fun e=>match e with|Exit.normal=>wpS P cx N Q k| .exit id=>xfe P cx N Q k id|e=>Q e)=onX P cx N Q k:=by
  funext e;cases e<;>rfl
 rw [e]
theorem xsi (h:Ev P cx N Q k σ):Ev P cx N Q (.code .skip::k) σ:=by
 refine⟨fun hn E a w R=>?_⟩;rw [xbo];intro c hc;cases c<;>simp only [comp] at hc
 case skip=>exact wp_skip (h.h hn E a w R)
 all_goals (first|cases hc|(split at hc<;>first|cases hc|(split at hc<;>first|cases hc|(split at hc<;>cases hc)))|(simp at hc))
theorem xxx {x y:MC} (h:Ev P cx N Q (.code x::.code y::k) σ):Ev P cx N Q (.code (.seq x y)::k) σ:=by
 refine⟨fun hn E a w R=>?_⟩;rw [xbo];intro c hc;cases c<;>simp only [comp] at hc
 case seq c1 c2=>
  split at hc
  ·rename_i h1 h2
   cases hc;have:=h.h hn E a w R;rw [xbo] at this;refine wp_seq (wp_mono (this c1 h1) fun e a w hq=>?_);cases e with
   |normal=>
    have hq:wpS P cx N Q (.code y::k) a w:=hq;rw [xbo] at hq;exact hq c2 h2
   |exit id=>exact hq
   |goto l=>exact hq
   |ret=>exact hq
   |panic c=>exact hq
   |outgrown=>exact hq
  ·cases hc
 all_goals (first|cases hc|(split at hc<;>first|cases hc|(split at hc<;>first|cases hc|(split at hc<;>cases hc)))|(simp at hc))
theorem xxr {x:X} {y z:MC} {t:Bool} (hx:x.ev σ=.bool t) (h1:t=true→Ev P cx N Q (.code y::k) σ) (h2:t=false→Ev P cx N Q (.code z::k) σ):Ev P cx N Q (.code (.cond x y z)::k) σ:=by
 refine⟨fun hn E a w R=>?_⟩;rw [xbo];intro c hc;cases c<;>simp only [comp] at hc
 case cond o c1 c2=>
  split at hc
  ·rename_i k0 k1 k2
   cases hc;have hr:=xac R k0;rw [hx] at hr;refine wp_cond_split (xg6 hr) (fun e=>?_) (fun e=>?_)
   ·have:=(h1 e).h hn E a w R
    rw [xbo] at this;exact this _ k1
   ·have:=(h2 e).h hn E a w R
    rw [xbo] at this;exact this _ k2
  ·cases hc
 all_goals (first|cases hc|(split at hc<;>first|cases hc|(split at hc<;>first|cases hc|(split at hc<;>cases hc)))|(simp at hc))
theorem xok {id:Nat} {x:MC} (h:Ev P cx N Q (.code x::.inBlock id::k) σ):Ev P cx N Q (.code (.block id x)::k) σ:=by
 refine⟨fun hn E a w R=>?_⟩;rw [xbo];intro c hc;cases c<;>simp only [comp] at hc
 case block id' c=>
  simp only [Option.map_eq_some_iff] at hc;obtain⟨y,h1,h2⟩:=hc;cases h2;have:=h.h hn E a w R;rw [xbo] at this;refine wp_block (wp_mono (this c h1) fun e a w hq=>?_);cases e with
  |normal=>simpa only [onX,wpS,Exit.inBlock] using hq
  |exit id'=>
   simp only [onX,xfe] at hq;simp only [Exit.inBlock];split
   ·rename_i e;rw [if_pos e] at hq;exact hq
   ·rename_i e;rw [if_neg e] at hq;exact hq
  |goto l=>exact hq
  |ret=>exact hq
  |panic c=>exact hq
  |outgrown=>exact hq
 all_goals (first|cases hc|(split at hc<;>first|cases hc|(split at hc<;>first|cases hc|(split at hc<;>cases hc)))|(simp at hc))
theorem xk7 {id:Nat} (h:Ev P cx N Q k σ):Ev P cx N Q (.inBlock id::k) σ:=by
 refine⟨fun hn E a w R=>?_⟩;simp only [wpS];exact h.h hn E a w R
theorem xsg {id:Nat} {k':List It} (hp:xrc id k=some k') (h:Ev P cx N Q k' σ):Ev P cx N Q (.code (.exit id)::k) σ:=by
 refine⟨fun hn E a w R=>?_⟩;rw [xbo];intro c hc;cases c<;>simp only [comp] at hc
 case exit id'=>
  obtain rfl:id'=id:=by simpa using hc
  refine wp_exit ?_;show xfe P cx N Q k _ a w;rw [xy4 hp];exact h.h hn E a w R
 all_goals (first|cases hc|(split at hc<;>first|cases hc|(split at hc<;>first|cases hc|(split at hc<;>cases hc)))|(simp at hc))
theorem xqe (h:∀E a w,Rel cx E σ a w→Q .ret a w):Ev P cx N Q (.code .ret::k) σ:=by
 refine⟨fun hn E a w R=>?_⟩;rw [xbo];intro c hc;cases c<;>simp only [comp] at hc
 case ret=>exact wp_ret (h E a w R)
 all_goals (first|cases hc|(split at hc<;>first|cases hc|(split at hc<;>first|cases hc|(split at hc<;>cases hc)))|(simp at hc))
theorem xxu {J:AS→Prop} (h:J σ):Ev P cx N Q (.goal J::k) σ:=by
 refine⟨fun hn E a w R=>?_⟩;simp only [wpS];exact⟨E,σ,h,hn,R⟩
theorem yfz {t:List (Nat×V)} {m:Nat} (hm:m≤σ.ob.length) (ht:∀x∈t,xae σ.t x.1=xae t x.1) (hs:∀x∈t,x.2.scp m=true) (ho:∀o∈σ.ob.take m,o.scp m=true) (h:Ev P cx N Q k ⟨σ.n,t,σ.ob.take m⟩):Ev P cx N Q k σ:=by
 refine⟨fun hn E a w R=>?_⟩;have key:∀(t:List (Nat×V)) i,(∃x∈t,x.1=i∧xae t i=x.2)∨xae t i=.junk:=by
  intro t i
  induction t with
  |nil=>exact .inr rfl
  |cons p l ih=>
   obtain⟨j,x⟩:=p;by_cases e:j=i
   ·exact .inl ⟨(j,x),by simp,e,by simp [xae,e]⟩
   ·rcases ih with ⟨y,h1,h2,h3⟩|h3
    ·exact .inl ⟨y,by simp [h1],h2,by simp [xae,e,h3]⟩
    ·exact .inr (by simp [xae,e,h3])
 have R1:=R.less (t:=t) (fun i=>by
  rcases key t i with ⟨x,h1,h2,h3⟩|h3
  ·right;rw [←h2];exact(ht x h1).symm
  ·exact .inl h3)
 have R2:=R1.cut m hm (fun i=>by
  rcases key t i with ⟨x,h1,h2,h3⟩|h3
  ·show(xae t i).scp m=true
   rw [h3];exact hs x h1
  ·show(xae t i).scp m=true
   rw [h3];rfl) ho
 exact h.h hn _ a w R2
theorem yg0 {ι:Type} (I:ι→AS) (μ:ι→Nat) (i0:ι) (hI:Ev P cx N Q [.goal fun σ'=>σ'=I i0] σ) {x:MC}
  (round:∀i,Ev P cx N Q (.code x::.goal (fun σ'=>∃i',σ'=I i'∧μ i'<μ i)::k) (I i)):Ev P cx N Q (.code (.loop x)::k) σ:=by
 refine⟨fun hn E a w R=>?_⟩;rw [xbo];intro c hc;cases c<;>simp only [comp] at hc
 case loop c=>
  simp only [Option.map_eq_some_iff] at hc;obtain⟨y,h1,h2⟩:=hc;cases h2;have h0:=hI.h hn E a w R;simp only [wpS] at h0;obtain⟨E0,σ0,rfl,hn0,R0⟩:=h0;intro b kk cs;have key:∀n i a w,μ i=n→(∃E,(I i).n=N∧Rel cx E (I i) a w)→∃e a' w',onX P cx N Q k e a' w'∧Arrives P (lone (b.at a (.code c::.inLoop c::kk)) cs w) b kk cs e a' w':=by
   intro n
   induction n using Nat.strongRecOn with
   |_ n ih=>
    intro i a w hμ ⟨E,hni,Ri⟩;have hr:=(round i).h hni E a w Ri;rw [xbo] at hr;obtain⟨e,a1,w1,hq,harr⟩:=hr c h1 b (.inLoop c::kk) cs;cases e with
    |normal=>
     have hq:wpS P cx N Q (.goal (fun σ'=>∃i',σ'=I i'∧μ i'<μ i)::k) a1 w1:=hq;simp only [wpS] at hq;obtain⟨E1,σ1,⟨i',rfl,hlt⟩,hn1,R1⟩:=hq;obtain⟨e2,a2,w2,hq2,harr2⟩:=ih (μ i') (hμ▸hlt) i' a1 w1 rfl ⟨E1,hn1,R1⟩;exact⟨e2,a2,w2,hq2,.of_steps (Steps.trans harr (.one step_inLoop)) harr2⟩
    |exit id=>
     have hq:xfe P cx N Q (.goal (fun σ'=>∃i',σ'=I i'∧μ i'<μ i)::k) id a1 w1:=hq;simp only [xfe] at hq;exact⟨.exit id,a1,w1,hq,.pass (x:=.inLoop c) rfl (fun _ _=> .inl (by simp)) harr⟩
    |goto l=>exact⟨.goto l,a1,w1,hq,.pass (x:=.inLoop c) rfl (fun _ _=> .inl (by simp)) harr⟩
    |ret=>exact⟨.ret,a1,w1,hq,.pass (x:=.inLoop c) rfl (fun _ _=> .inl (by simp)) harr⟩
    |panic ch=>exact⟨.panic ch,a1,w1,hq,.pass (x:=.inLoop c) rfl (fun _ _=> .inl (by simp)) harr⟩
    |outgrown=>exact⟨.outgrown,a1,w1,hq,.pass (x:=.inLoop c) rfl (fun _ _=> .inl (by simp)) harr⟩
  obtain⟨e,a',w',hq,harr⟩:=key _ i0 a w rfl ⟨E0,hn0,R0⟩;exact⟨e,a',w',hq,.of_steps (.one step_loop) harr⟩
 all_goals (first|cases hc|(split at hc<;>first|cases hc|(split at hc<;>first|cases hc|(split at hc<;>cases hc)))|(simp at hc))
theorem xkm {m:MC} {n:Nat} {a:Act} {w:World}:wpS P cx N Q (.rounds m n::k) a w=∀c,comp P N c=some m→Code.rounds P c (onX P cx N Q k) n a w:=by
 simp only [wpS];have e:(fun e=>match e with|Exit.normal=>wpS P cx N Q k| .exit id=>xfe P cx N Q k id|e=>Q e)=onX P cx N Q k:=by
  funext e;cases e<;>rfl
 rw [e]
theorem xad (n:Nat) {x:MC} (h:Ev P cx N Q (.rounds x n::k) σ):Ev P cx N Q (.code (.loop x)::k) σ:=by
 refine⟨fun hn E a w R=>?_⟩;rw [xbo];intro c hc;cases c<;>simp only [comp] at hc
 case loop c=>
  simp only [Option.map_eq_some_iff] at hc;obtain⟨y,h1,h2⟩:=hc;cases h2;have:=h.h hn E a w R;rw [xkm] at this;exact wp_loop_rounds n (this c h1)
 all_goals (first|cases hc|(split at hc<;>first|cases hc|(split at hc<;>first|cases hc|(split at hc<;>cases hc)))|(simp at hc))
theorem xol {n:Nat} {x:MC} (h:Ev P cx N Q (.code x::.rounds x n::k) σ):Ev P cx N Q (.rounds x (n+1)::k) σ:=by
 refine⟨fun hn E a w R=>?_⟩;rw [xkm];intro c hc;have:=h.h hn E a w R;rw [xbo] at this;refine wp_mono (this c hc) fun e a w hq=>?_;cases e with
 |normal=>
  have hq:wpS P cx N Q (.rounds x n::k) a w:=hq;rw [xkm] at hq;exact hq c hc
 |exit id=>
  have hq:xfe P cx N Q (.rounds x n::k) id a w:=hq;simp only [xfe] at hq;exact hq
 |goto l=>exact hq
 |ret=>exact hq
 |panic c=>exact hq
 |outgrown=>exact hq
theorem xcv {l:List RO} (h:EvR P cx N Q k l σ):Ev P cx N Q (.code (.reg l)::k) σ:=by
 refine⟨fun hn E a w R=>?_⟩;rw [xbo];intro c hc;cases c<;>simp only [comp] at hc
 case region id ops draw=>
  split at hc
  ·rename_i h1
   cases draw with
   |false=>
    simp only [Bool.false_eq_true,if_false,Option.some.injEq,MC.reg.injEq] at hc;subst hc;exact wp_region_list (h.h hn E a w R ops ops.toList h1)
   |true=>simp only [if_true] at hc;split at hc<;>simp at hc
  ·cases hc
 all_goals (first|cases hc|(split at hc<;>first|cases hc|(split at hc<;>first|cases hc|(split at hc<;>cases hc)))|(simp at hc))
theorem xax (h:Ev P cx N Q k σ):EvR P cx N Q k [] σ:=by
 refine⟨fun hn E a w R ops os hc=>?_⟩;cases os with
 |nil=>exact h.h hn E a w R
 |cons o os=>
  simp only [xk4] at hc;split at hc<;>cases hc
theorem xak {ops:Array Oper} {os:List Oper} {r:RO} {l:List RO} (h:xk4 P N ops os=some (r::l)):∃o os',os=o::os'∧ybl P N ops o=some r∧xk4 P N ops os'=some l:=by
 cases os with
 |nil=>simp [xk4] at h
 |cons o os=>
  simp only [xk4] at h;split at h
  ·rename_i h1 h2
   cases h;exact⟨o,os,rfl,h1,h2⟩
  ·cases h
theorem xal {ops:Array Oper} {o:Oper} {r:RO} (h:ybl P N ops o=some r):xg8 P o.op=some r.k∧xvq ops o.guard=some r.gd∧o.dst=r.d∧∀i,r.d=some i→i<N:=by
 unfold ybl at h;split at h
 ·rename_i h1 h2
  split at h
  ·rename_i h3
   cases h;refine⟨h1,h2,rfl,fun i hi=>?_⟩;rw [show o.dst=some i from hi] at h3;simpa using h3
  ·cases h
 ·cases h
theorem AS.put_n (σ:AS) (d:Option Nat) (x:V):(σ.put d x).n=σ.n:=by cases d<;>rfl
def xat (σ:AS):Option (Nat×Bool)→Option Bool
 |none=>some true
 |some (t,b)=>match xae σ.t t with
  | .bool c=>some (c==b)
  | .tup []=>some false
  |_=>none
theorem xru {a:Act} (hs:∀t c,xae σ.t t=.bool c→a.tmps.getD t undef=.bool c) (ht:∀t,xae σ.t t=.tup []→a.tmps.getD t undef=.tuple #[]) {ops:Array Oper} {o:Oper} {gd:Option (Nat×Bool)} (hg:xvq ops o.guard=some gd) {b:Bool} (h:xat σ gd=some b):Region.wanted o (yielded ops a.tmps)=b:=by
 unfold xvq at hg;unfold Region.wanted;split at hg
 ·rename_i e
  cases hg;simp only [xat,Option.some.injEq] at h;rw [e,←h]
 ·rename_i j c e
  split at hg
  ·rename_i t htt
   cases hg;rw [e];simp only [xat] at h;have hy:yielded ops a.tmps j=match a.tmps[t]? with|some (.bool b)=>some b|_=>none:=by
    unfold yielded;rw [htt];rfl
   split at h
   ·rename_i d e2
    have:=hs t d e2;have e3:a.tmps[t]?=some (.bool d):=by
     rw [Array.getD_eq_getD_getElem?] at this;cases hq:a.tmps[t]? with
     |none=>rw [hq] at this;simp [undef] at this
     |some x=>rw [hq] at this;simp at this;rw [this]
    simp only [hy,e3];simp only [Option.some.injEq] at h;rw [←h];simp
   ·rename_i e2
    have h1:=ht t e2;simp only [Option.some.injEq] at h;subst h;have e3:∀b,a.tmps[t]?≠some (.bool b):=by
     intro b hq;rw [Array.getD_eq_getD_getElem?,hq] at h1;simp at h1
    have e4:yielded ops a.tmps j=none:=by
     rw [hy];split
     ·rename_i b hq;exact absurd hq (e3 b)
     ·rfl
    simp only [e4];rfl
   ·cases h
  ·cases hg
theorem xc6 {E:Env} {a:Act} {w:World} (R:Rel cx E σ a w) {ops:Array Oper} {o:Oper} {gd:Option (Nat×Bool)} (hg:xvq ops o.guard=some gd) {b:Bool} (h:xat σ gd=some b):Region.wanted o (yielded ops a.tmps)=b:=by
 refine xru (fun t c e=>?_) (fun t e=>?_) hg h
 ·have hr:=R.tm t
  rw [e] at hr;exact xg6 hr
 ·have hr:=R.tm t
  rw [e] at hr;simp only [RdT,RdTs] at hr;obtain⟨vs,h1,rfl⟩:=hr;exact h1
theorem xj9 {r:RO} {l:List RO} (hw:xat σ r.gd=some false) (h:EvR P cx N Q k l (σ.put r.d (.tup []))):EvR P cx N Q k (r::l) σ:=by
 refine⟨fun hn E a w R ops os hc=>?_⟩;obtain⟨o,os',rfl,h1,h2⟩:=xak hc;obtain⟨k1,k2,k3,k4⟩:=xal h1;unfold wpList;rw [if_neg (by rw [xc6 R k2 hw];simp),k3];refine h.h (by rw [AS.put_n];exact hn) E _ w (R.put (fun i hi=>by rw [hn];exact k4 i hi) ?_) ops os' h2;simp only [RdT,RdTs];exact⟨[],rfl,rfl⟩
theorem xy0 {d:Option Nat} {gd:Option (Nat×Bool)} {m:POp} {l:List RO} (hw:xat σ gd=some true) (hc:(aopP σ m).2) (h:EvR P cx N Q k l (σ.put d (aopP σ m).1)):EvR P cx N Q k (⟨d,gd,.p m⟩::l) σ:=by
 refine⟨fun hn E a w R ops os hcc=>?_⟩;obtain⟨o,os',rfl,h1,h2⟩:=xak hcc;obtain⟨k1,k2,k3,k4⟩:=xal h1;unfold wpList;rw [if_pos (xc6 R k2 hw)];refine .inl ?_;have k1':xnk P o.op=some m:=by
  have k1:xg8 P o.op=some (.p m):=k1;have hb:m≠.bad:=fun e=>by subst e;exact hc
  unfold xg8 at k1;split at k1
  ·rename_i e;cases k1;exact e
  ·split at k1
   ·cases k1
   ·split at k1
    ·split at k1
     ·split at k1
      ·simp at k1
      ·cases k1;exact absurd rfl hb
     ·cases k1;exact absurd rfl hb
    ·simp at k1
    ·cases k1;exact absurd rfl hb
 obtain⟨v,hr,hx⟩:=xr7 k1' R hc;unfold Oper.wp;rw [hr,Oper.upon_value,show o.dst=d from k3];exact h.h (by rw [AS.put_n];exact hn) E _ w (R.put (fun i hi=>by rw [hn];exact k4 i hi) hx) ops os' h2
theorem xx4 {op:Op} {n:Nat} {b:BinOp} {x y:X} (h:xnk P op=some (.bin n b x y)):∃T x0 y0 yt,op=.binOp b T x0 y0 yt∧tbOf P T=n∧xb2 x0=some x∧xb2 y0=some y:=by
 cases op
 case binOp op T x0 y0 yt=>
  simp only [xnk] at h;split at h
  ·simp [Option.map_eq_some_iff,Option.bind_eq_some_iff] at h
  ·simp only [Option.map_eq_some_iff,Option.bind_eq_some_iff,POp.bin.injEq] at h
   obtain⟨a1,q1,a2,q2,e1,e2,e3,e4⟩:=h;subst e2 e3 e4;exact⟨T,x0,y0,yt,rfl,e1,q1,q2⟩
 all_goals
  exfalso
  unfold xnk at h
  (repeat' (split at h))<;>simp_all [Option.map_eq_some_iff,Option.bind_eq_some_iff]
theorem xl6 {d:Option Nat} {gd:Option (Nat×Bool)} {x:X} {t:Bool} {s:Nat} {L:List V} {l:List RO} (hw:xat σ gd=some true) (hx:x.ev σ=.sl t s L) (h:∀b,(L≠[]→b=false)→EvR P cx N Q k l (σ.put d (.bool b))):EvR P cx N Q k (⟨d,gd,.p (.bin 2 .eql x (.c .nilS))⟩::l) σ:=by
 refine⟨fun hn E a w R ops os hcc=>?_⟩;obtain⟨o,os',rfl,h1,h2⟩:=xak hcc;obtain⟨k1,k2,k3,k4⟩:=xal h1;unfold wpList;rw [if_pos (xc6 R k2 hw)];refine .inl ?_;have k1:xg8 P o.op=some (.p (.bin 2 .eql x (.c .nilS))):=k1;have k1':xnk P o.op=some (.bin 2 .eql x (.c .nilS)):=by
  unfold xg8 at k1;split at k1
  ·rename_i e;cases k1;exact e
  ·split at k1
   ·cases k1
   ·split at k1
    ·split at k1
     ·split at k1
      ·simp at k1
      ·cases k1
     ·cases k1
    ·simp at k1
    ·cases k1
 obtain⟨T,x0,y0,yt,ho,hT,hx0,hy0⟩:=xx4 k1';have hr:=xac R hx0;rw [hx] at hr;have hr':=xac R hy0;simp only [X.ev,RdT,RdV,List.cons.injEq,and_true] at hr hr';obtain⟨hp,hU,A,c,he,hc,hm,hne⟩:=hr;have hs:∃e,P.underlying T=some (.slice e):=by
  unfold tbOf at hT;split at hT
  ·cases hT
  ·exact⟨_,by assumption⟩
  ·cases hT
 obtain⟨e,hs⟩:=hs;have hrun:(execOp a.eval o).run P w=.ok (.value (.bool A.isNone)) w:=by
  simp only [execOp,ho,he,hr',Sem.run_bind];have hg:(eqGuard .eql T x0 y0 (.slice A L.length c) (.slice none 0 0)).run P w=.ok () w:=by rw [eqGuard_at_slice];rfl
  have hq:(binOp .eql T (.slice A L.length c) (.slice none 0 0)).run P w=.ok (.bool A.isNone) w:=by
   simp only [binOp];have h9:∀d:Nat,(Op.equalIn (d+1) T (.slice A L.length c) (.slice none 0 0)).run P w=.ok A.isNone w:=fun d=>by
    cases A<;>simp [Op.equalIn,run_underlying hs]
   simp [Op.equal,Op.maxDepth,h9 9999]
  simp only [hg,hq,Result.andThen_ok,Sem.run_pure]
 unfold Oper.wp;rw [hrun,Oper.upon_value,show o.dst=d from k3];refine(h A.isNone fun hL=>?_).h (by rw [AS.put_n];exact hn) E _ w (R.put (fun i hi=>by rw [hn];exact k4 i hi) (by simp only [RdT,RdV])) ops os' h2;obtain⟨b,o',xs,hA,_⟩:=hne (List.length_pos_iff.2 hL);rw [hA];rfl
theorem evr_m {d:Option Nat} {gd:Option (Nat×Bool)} {m:MOp} {l:List RO} (hw:xat σ gd=some true) (hc:(aopM σ m).2.2) (hnn:(aopM σ m).2.1.n=σ.n) (h:EvR P cx N Q k l ((aopM σ m).2.1.put d (aopM σ m).1)):EvR P cx N Q k (⟨d,gd,.m m⟩::l) σ:=by
 refine⟨fun hn E a w R ops os hcc=>?_⟩;obtain⟨o,os',rfl,h1,h2⟩:=xak hcc;obtain⟨k1,k2,k3,k4⟩:=xal h1;unfold wpList;rw [if_pos (xc6 R k2 hw)];refine .inl ?_;have k1':xg0 P o.op=some m:=by
  have k1:xg8 P o.op=some (.m m):=k1;unfold xg8 at k1;split at k1
  ·cases k1
  ·split at k1
   ·rename_i e;cases k1;exact e
   ·split at k1
    ·split at k1
     ·split at k1
      ·simp at k1
      ·cases k1
     ·cases k1
    ·simp at k1
    ·cases k1
 obtain⟨v,w',E',hr,_,hx,R'⟩:=xck k1' R hc;have R2:=R'.put (d:=d) (fun i hi=>by rw [hnn,hn];exact k4 i hi) hx;have hgo:=h.h (by rw [AS.put_n,hnn];exact hn) E' _ w' R2 ops os' h2;unfold Oper.wp;rcases hr with hr|⟨hr,rfl⟩
 ·rw [hr,Oper.upon_value,show o.dst=d from k3]
  exact hgo
 ·rw [hr,Oper.upon_skip,show o.dst=d from k3]
  exact hgo
def Sub (x y:V):Prop:=∀S w v,RdT (argS S) w x v→RdT (argS S) w y v
theorem Sub.refl (x:V):Sub x x:=fun _ _ _ h=>h
theorem Sub.nil (s:Nat):Sub .nilS (.sl false s []):=by
 intro S w v h;simp only [RdT,RdV] at h⊢;simp at h;subst h;exact⟨rfl,by simp [Unif],none,0,by simp,by simp,by simp,by simp⟩
def Subs:List V→List V→Prop
 |[],[]=>True
 |x::l,y::m=>Sub x y∧Subs l m
 |_,_=>False
theorem Subs.rd {S:Nat→Prop} {w:World}:∀{l m:List V} {vs:List Value},Subs l m→RdTs (argS S) w l vs→RdTs (argS S) w m vs
 |[],[],vs,_,h=>h
 |x::l,y::m,vs,hs,h=>by
  simp only [RdTs] at h⊢;obtain⟨v,ys,h1,h2,h3⟩:=h;exact⟨v,ys,h1,hs.1 S w v h2,hs.2.rd h3⟩
 |[],y::m,vs,hs,h=>hs.elim
 |x::l,[],vs,hs,h=>hs.elim
def xfh:List V→Prop
 |[]=>True
 | .tup _::_=>False
 |_::l=>xfh l
theorem xq8 {E:Env} {a:Act} {w:World} (R:Rel cx E σ a w):∀{as:List Operand} {xs:List X},xev as=some xs→V.ressOk σ (xs.map (X.ev σ))→xfh (xs.map (X.ev σ))→RdTs (argE w) w (V.lows (V.ress σ [] (xs.map (X.ev σ)))) (as.map a.eval)
 |[],xs,h,_,_=>by simp only [xev,Option.some.injEq] at h;subst h;simp [RdTs,V.ress,V.lows]
 |o::as,xs,h,hr,ht=>by
  simp only [xev] at h;split at h
  ·rename_i y m h1 h2
   cases h;simp only [List.map_cons,V.ress,V.lows,RdTs,V.ressOk] at hr⊢;have ht':xfh (m.map (X.ev σ))∧∀l,y.ev σ≠.tup l:=by
    simp only [List.map_cons] at ht;cases he:y.ev σ<;>rw [he] at ht<;>simp_all [xfh]
   exact⟨_,_,rfl,argT R hr.1 ht'.2 (xac R h1),xq8 R h2 hr.2 ht'.1⟩
  ·cases h
theorem xj4 {E:Env} {a:Act} {w:World} (R:Rel cx E σ a w) {as:List Operand} {xs:List X} (hxs:xev as=some xs) {ys:List V} (hok:V.ressOk σ (xs.map (X.ev σ))) (ht:xfh (xs.map (X.ev σ))) (hs:Subs (V.lows (V.ress σ [] (xs.map (X.ev σ)))) ys):
  ∃S:Nat→Prop,(∀b,S b→b<w.heap.size)∧RdTs (argS S) w ys (as.map a.eval)∧(V.pures (xs.map (X.ev σ))=true→∀b,S b→E.B b):=by
 cases hp:V.pures (xs.map (X.ev σ)) with
 |true=>
  refine⟨E.B,R.lt,?_,fun _ _ h=>h⟩;rw [V.ress_pure σ [] _ hp] at hs;exact hs.rd (xhl (E:=E) (E0:=argS E.B) (fun _ h=>h) hp (xbz R hxs))
 |false=>exact⟨fun b=>b<w.heap.size,fun _ h=>h,hs.rd (xq8 R hxs hok ht),fun h=>by cases h⟩
def xkd (ws:List V) (x:V) (obs:List Ob):Prop:=V.pures ws=true∨(x.fresh=true∧∀o∈obs,o.v.fresh=true)
theorem Rel.backC {E:Env} {a:Act} {w w':World} (R:Rel cx E σ a w) {S:Nat→Prop} {ws:List V} (hS:V.pures ws=true→∀b,S b→E.B b) {x:V} {obs:List Ob} (hq:xkd ws x obs) {v:Value} (h:ResOk w w' S x obs v):
  ∃E',Leads E w E' w'∧RdT E' w' (x.shift σ.ob.length) v∧Rel cx E' {σ with ob:=σ.ob++obs.map (Ob.shift σ.ob.length)} a w':=by
 rcases hq with hq|hq
 ·exact R.back (hS hq) h
 ·exact R.back (S:=fun _=>False) (fun _ h=>h.elim) (h.fresh hq.1 hq.2)
theorem xjs {f : FuncId} {fn : Func} (hf : P.funcs[f]? = some fn) (hb : fn.body.isSome = true) (hnm : (fn.name != "runtime.NumGoroutine") = true) (args : Array Value) (w : World) : (callFunc f args).run P w = .ok (.enter f args) w := by
 have hb':fn.body.isNone=false:=by cases h:fn.body<;>simp_all
 have hn : (fn.name == "runtime.NumGoroutine") = false := by simpa using hnm
 simp only [callFunc,Sem.run_bind,run_program,Result.andThen_ok,hf,hn,hb',Bool.false_eq_true,if_false,Sem.run_pure]
theorem ybr {d:Option Nat} {gd:Option (Nat×Bool)} {f:FuncId} {xs:List X} {l:List RO} (ys:List V) (R0:V→List Ob→Prop) (hF:Fnc P f ys R0) (hw:xat σ gd=some true) (hok:V.ressOk σ (xs.map (X.ev σ))) (ht:xfh (xs.map (X.ev σ)))
  (hs:Subs (V.lows (V.ress σ [] (xs.map (X.ev σ)))) ys) (hq:∀x obs,R0 x obs→xkd (xs.map (X.ev σ)) x obs) (h:∀x obs,R0 x obs→EvR P cx N Q k l (AS.put {σ with ob:=σ.ob++obs.map (Ob.shift σ.ob.length)} d (x.shift σ.ob.length))):EvR P cx N Q k (⟨d,gd,.call f xs⟩::l) σ:=by
 refine⟨fun hn E a w R ops os hcc=>?_⟩;obtain⟨o,os',rfl,h1,h2⟩:=xak hcc;obtain⟨k1,k2,k3,k4⟩:=xal h1;unfold wpList;rw [if_pos (xc6 R k2 hw)];refine .inl ?_;have k1:xg8 P o.op=some (.call f xs):=k1;unfold xg8 at k1;split at k1
 ·cases k1
 split at k1
 ·cases k1
 split at k1
 ·rename_i f' as ats e1
  split at k1
  ·rename_i fn hfn
   split at k1
   ·rename_i hcnd
    simp only [Bool.and_eq_true] at hcnd;simp only [Option.map_eq_some_iff,RK.call.injEq] at k1;obtain⟨ys',hys,rfl,rfl⟩:=k1;have hr:(execOp a.eval o).run P w=.ok (.enter f' (as.map a.eval)) w:=by
     simp only [execOp,e1,resolve,Act.eval,Deferred.ofValue,Sem.run_bind,Sem.run_pure,Result.andThen_ok,invoke];rw [xjs hfn hcnd.1 hcnd.2];simp
    unfold Oper.wp;rw [hr,Oper.upon_enter];obtain⟨S,hS,hargs,hSp⟩:=xj4 R hys hok ht hs;have hC:=hF w S _ hS hargs;have e2:(as.toList.map a.eval).toArray=as.map a.eval:=by rw [←Array.toList_map,Array.toArray_toList]
    rw [e2] at hC;refine hC.mono ?_
    rintro e w' ⟨x,obs,v,hx,rfl,hres⟩
    obtain⟨E',_,hx',R'⟩:=R.backC hSp (hq x obs hx) hres;show wpList P ops (onX P cx N Q k) os' (a.put o.dst v) w';rw [show o.dst=d from k3];exact(h x obs hx).h (by rw [AS.put_n];exact hn) E' _ w' (R'.put (fun i hi=>by show i<σ.n;rw [hn];exact k4 i hi) hx') ops os' h2
   ·cases k1
  ·cases k1
 ·simp at k1
 ·cases k1
def xhi:V→Option (FuncId×List V)
 | .fn f=>some (f,[])
 | .clo (.fn f) cs=>some (f,cs)
 |_=>none
def okF (P:Program) (f:FuncId):Bool:=match P.funcs[f]? with
 | some fn => fn.body.isSome && fn.name != "runtime.NumGoroutine"
 |none=>false
theorem RdTs.app {E:Env} {w:World}:∀{l m:List V} {vs us:List Value},RdTs E w l vs→RdTs E w m us→RdTs E w (l++m) (vs++us)
 |[],m,vs,us,h,k=>by simp only [RdTs] at h;subst h;exact k
 |x::l,m,vs,us,h,k=>by
  simp only [RdTs,List.cons_append] at h⊢;obtain⟨v,ys,rfl,h1,h2⟩:=h;exact⟨v,ys++us,rfl,h1,h2.app k⟩
theorem xul:∀{l:List V},xfh l→V.noTups l=true
 |[],_=>rfl
 |x::l,h=>by cases x<;>simp only [xfh,V.noTups] at h⊢<;>exact xul h
theorem xq3 {E:Env} {w:World} {x:V} {v:Value} {f:FuncId} {cs:List V} (h:xhi x=some (f,cs)) (hr:RdT E w x v):∃us,v=.func (.func f) #[] us.toArray∧RdTs E w cs us:=by
 unfold xhi at h;split at h
 ·obtain⟨rfl,rfl⟩:=Prod.mk.inj (Option.some.inj h)
  simp only [RdT,RdV,List.cons.injEq,and_true] at hr;exact⟨[],by simpa using hr,by simp only [RdTs]⟩
 ·obtain⟨rfl,rfl⟩:=Prod.mk.inj (Option.some.inj h)
  simpa only [RdT,CK.ok] using hr
 ·cases h
theorem xnr {E:Env} {a:Act} {w:World} (R:Rel cx E σ a w) {ws:List V} {vs:List Value} (hr:RdTs E w ws vs) {ys:List V} (hok:V.ressOk σ ws) (ht:xfh ws) (hs:Subs (V.lows (V.ress σ [] ws)) ys):
  ∃S:Nat→Prop,(∀b,S b→b<w.heap.size)∧RdTs (argS S) w ys vs∧(V.pures ws=true→∀b,S b→E.B b):=by
 cases hp:V.pures ws with
 |true=>
  refine⟨E.B,R.lt,?_,fun _ _ h=>h⟩;rw [V.ress_pure σ [] _ hp] at hs;exact hs.rd (xhl (E:=E) (E0:=argS E.B) (fun _ h=>h) hp hr)
 |false=>exact⟨fun b=>b<w.heap.size,fun _ h=>h,hs.rd (yff R hok (xul ht) hr),fun h=>by cases h⟩
theorem xmd {o:Oper} {x:X} {xs:List X} (h:xg8 P o.op=some (.callv x xs)):∃i as ats,o.op=.call {callee:=.value (.tmp i),args:=as,argTypes:=ats}∧x=.t i∧xev as.toList=some xs:=by
 unfold xg8 at h;split at h
 ·cases h
 split at h
 ·cases h
 split at h
 ·split at h
  ·split at h
   ·simp at h
   ·cases h
  ·cases h
 ·rename_i i as ats e1
  simp only [Option.map_eq_some_iff,RK.callv.injEq] at h;obtain⟨ys,h1,h2,h3⟩:=h;subst h3;exact⟨i,as,ats,e1,h2.symm,h1⟩
 ·cases h
theorem xxz {d:Option Nat} {gd:Option (Nat×Bool)} {x0:X} {xs:List X} {l:List RO} {f:FuncId} {cs:List V} (ys:List V) (R0:V→List Ob→Prop) (hF:Fnc P f ys R0) (hf:okF P f=true) (hv:xhi (x0.ev σ)=some (f,cs)) (hw:xat σ gd=some true) (hok:V.ressOk σ (xs.map (X.ev σ)++cs)) (ht:xfh (xs.map (X.ev σ)++cs))
  (hs:Subs (V.lows (V.ress σ [] (xs.map (X.ev σ)++cs))) ys) (hq:∀x obs,R0 x obs→xkd (xs.map (X.ev σ)++cs) x obs) (h:∀x obs,R0 x obs→EvR P cx N Q k l (AS.put {σ with ob:=σ.ob++obs.map (Ob.shift σ.ob.length)} d (x.shift σ.ob.length))):EvR P cx N Q k (⟨d,gd,.callv x0 xs⟩::l) σ:=by
 refine⟨fun hn E a w R ops os hcc=>?_⟩;obtain⟨o,os',rfl,h1,h2⟩:=xak hcc;obtain⟨k1,k2,k3,k4⟩:=xal h1;unfold wpList;rw [if_pos (xc6 R k2 hw)];refine .inl ?_;obtain⟨i,as,ats,e1,rfl,hxs⟩:=xmd (o:=o) k1;obtain⟨us,hu,hus⟩:=xq3 hv (R.tm i);unfold okF at hf;split at hf
 ·rename_i fn hfn
  simp only [Bool.and_eq_true] at hf;have hr:(execOp a.eval o).run P w=.ok (.enter f (as.map a.eval++us.toArray)) w:=by
   simp only [execOp,e1,resolve,Act.eval,hu,Deferred.ofValue,Sem.run_bind,Sem.run_pure,Result.andThen_ok,invoke];rw [xjs hfn hf.1 hf.2];simp
  unfold Oper.wp;rw [hr,Oper.upon_enter];obtain⟨S,hS,hargs,hSp⟩:=xnr R ((xbz R hxs).app hus) hok ht hs;have hC:=hF w S _ hS hargs;have e2:(as.toList.map a.eval++us).toArray=as.map a.eval++us.toArray:=by
   rw [←Array.toList_map];simp
  rw [e2] at hC;refine hC.mono ?_
  rintro e w' ⟨x,obs,v,hx,rfl,hres⟩
  obtain⟨E',_,hx',R'⟩:=R.backC hSp (hq x obs hx) hres;show wpList P ops (onX P cx N Q k) os' (a.put o.dst v) w';rw [show o.dst=d from k3];exact(h x obs hx).h (by rw [AS.put_n];exact hn) E' _ w' (R'.put (fun i hi=>by show i<σ.n;rw [hn];exact k4 i hi) hx') ops os' h2
 ·cases hf
end
end Rdn.Dp
namespace Rdn.Dp
open Go Go.RowKit Rdn
section
variable (P:Program)
def xu1:ResultVar→Option POp
 | .tmp t=>some (.mov (.t t))
 | .cell a T=>match P.underlying T,P.info? T with
  |some d,some i=>some (.load (agD d) i.size (.t a))
  |_,_=>none
def xk5:List ResultVar→Option (List POp)
 |[]=>some []
 |r::l=>match xu1 P r,xk5 l with
  |some m,some ms=>some (m::ms)
  |_,_=>none
def xcd (f:FuncId):Option (Nat×MC×List POp):=match P.funcs[f]? with
 |some fn=>match fn.body with
  |some c=>match comp P fn.ntmps c,xk5 P fn.results.toList with
   |some m,some rs=>some (fn.ntmps,m,rs)
   |_,_=>none
  |none=>none
 |none=>none
end
def allV (σ:AS):List POp→List V×Prop
 |[]=>([],True)
 |m::ms=>((aopP σ m).1::(allV σ ms).1,(aopP σ m).2∧(allV σ ms).2)
def retV (σ:AS):List POp→V×Prop
 |[m]=>aopP σ m
 |ms=>(.tup (allV σ ms).1,(allV σ ms).2)
def ents:Nat→List V→List (Nat×V)
 |_,[]=>[]
 |i,x::l=>(i,x)::ents (i+1) l
section
variable {P:Program} {cx:Cx} {E:Env} {σ:AS} {a:Act} {w:World}
theorem yd6 (R:Rel cx E σ a w) {r:ResultVar} {m:POp} (hc:xu1 P r=some m) (h:(aopP σ m).2):
  ∃z,(match r with| .tmp t=>pure (a.tmps.getD t undef)| .cell b T=>do loadVar T (←asAddr (a.tmps.getD b undef)):Sem Value).run P w=.ok z w∧RdT E w (aopP σ m).1 z:=by
 cases r with
 |tmp t=>
  simp only [xu1,Option.some.injEq] at hc;subst hc;exact⟨_,rfl,R.tm t⟩
 |cell b T=>
  simp only [xu1] at hc;split at hc
  ·rename_i h1 h2
   cases hc;obtain⟨z,k1,k2⟩:=xo2 (P:=P) R h1 h2 (R.tm b) h;refine⟨z,?_,k2⟩;have key:∀p:Value,(Instr.loadAt T p).run P w=.ok z w→(do loadVar T (←asAddr p):Sem Value).run P w=.ok z w:=by
    intro p hp;cases p with
    |pointer q=>
     cases q with
     |none=>simp [Instr.loadAt,Instr.sureAddr] at hp
     |some q=>simpa [Instr.loadAt,Instr.sureAddr,asAddr] using hp
    |_=>simp [Instr.loadAt,Instr.sureAddr] at hp
   exact key _ k1
  ·cases hc
theorem xrg (R:Rel cx E σ a w):∀{l:List ResultVar} {ms:List POp},xk5 P l=some ms→(allV σ ms).2→
  ∃zs,(l.mapM fun r=>(match r with| .tmp t=>pure (a.tmps.getD t undef)| .cell b T=>do loadVar T (←asAddr (a.tmps.getD b undef)):Sem Value)).run P w=.ok zs w∧RdTs E w (allV σ ms).1 zs∧zs.length=l.length∧ms.length=l.length
 |[],ms,hc,_=>by
  simp only [xk5,Option.some.injEq] at hc;subst hc;exact⟨[],by simp,by simp [allV,RdTs],rfl,rfl⟩
 |r::l,ms,hc,h=>by
  simp only [xk5] at hc;split at hc
  ·rename_i m ms' h1 h2
   cases hc;simp only [allV] at h⊢;obtain⟨z,k1,k2⟩:=yd6 R h1 h.1;obtain⟨zs,k3,k4,k5,k6⟩:=xrg R h2 h.2;refine⟨z::zs,?_,?_,by simp [k5],by simp [k6]⟩
   ·rw [List.mapM_cons]
    simp only [Sem.run_bind,k1,Result.andThen_ok,k3,Sem.run_pure]
   ·simp only [RdTs]
    exact⟨z,zs,rfl,k2,k4⟩
  ·cases hc
theorem xgk (R:Rel cx E σ a w) {fn:Func} {rs:List POp} (hc:xk5 P fn.results.toList=some rs) (h:(retV σ rs).2):∃v,(results fn a.tmps).run P w=.ok v w∧RdT E w (retV σ rs).1 v:=by
 have hall:(allV σ rs).2:=by
  unfold retV at h;split at h
  ·exact⟨h,trivial⟩
  ·exact h
 obtain⟨zs,k1,k2,k3,k4⟩:=xrg R hc hall;have hrun:(results fn a.tmps).run P w=.ok (if h:zs.toArray.size=1 then zs.toArray[0] else .tuple zs.toArray) w:=by
  unfold results;rw [Array.mapM_eq_mapM_toList];simp only [Sem.run_bind,Sem.run_map];have:∀(g g':ResultVar→Sem Value),g=g'→(List.mapM g fn.results.toList).run P w=(List.mapM g' fn.results.toList).run P w:=fun g g' e=>by rw [e]
  rw [this _ (fun r=>(match r with| .tmp t=>pure (a.tmps.getD t undef)| .cell b T=>do loadVar T (←asAddr (a.tmps.getD b undef)):Sem Value)) (by funext r;cases r<;>rfl),k1];simp
 refine⟨_,hrun,?_⟩;unfold retV;split
 ·rename_i m
  simp only [allV,RdTs] at k2;obtain⟨v,ys,rfl,k5,rfl⟩:=k2;simpa using k5
 ·rename_i hne
  have:¬zs.toArray.size=1:=by
   intro e;simp at e;have:rs.length=1:=by omega
   obtain⟨m,rfl⟩:=List.length_eq_one_iff.1 this;exact hne m rfl
  rw [dif_neg this];simp only [RdT];exact⟨zs,rfl,k2⟩
def post (P:Program) (f:FuncId) (W:World) (S:Nat→Prop) (R0:V→List Ob→Prop):Exit→Act→World→Prop:=fun e a w=>
 ∀fn,P.funcs[f]?=some fn→bodyPost P fn (fun e w'=>∃x obs v,R0 x obs∧e=.returned v∧ResOk W w' S x obs v) e a w
theorem xxw {f:FuncId} {W:World} {S:Nat→Prop} {R0:V→List Ob→Prop} {n N:Nat} {m:MC} {rs:List POp} {k:List It} (hc:xcd P f=some (n,m,rs)) (ids:List Nat) (hv:(retV σ rs).2) (ho:xiz σ ids) (hp:V.resOk σ (retV σ rs).1)
  (h:R0 ((retV σ rs).1.res σ ids) (xgh σ ids)):Ev P ⟨W,fun _=>False,S⟩ N (post P f W S R0) (.code .ret::k) σ:=by
 refine xqe fun E a w R fn hfn=>?_;unfold xcd at hc;rw [hfn] at hc;simp only at hc;split at hc
 ·split at hc
  ·rename_i h1 h2
   simp only [Option.some.injEq,Prod.mk.injEq] at hc;obtain⟨_,_,rfl⟩:=hc;obtain⟨v,k1,k2⟩:=xgk R h2 hv;exact bodyPost_ret k1 R.df ⟨_,_,v,h,rfl,R.out ho k2 hp⟩
  ·cases hc
 ·cases hc
theorem xvw {f:FuncId} {W:World} {S:Nat→Prop} {R0:V→List Ob→Prop} {n N:Nat} {m:MC} {rs:List POp} {k:List It} (hc:xcd P f=some (n,m,rs)) (hv:(retV σ rs).2) {r g:Nat} {T:TypeId} {c:V} (hx:(retV σ rs).1=.ptr r g [] 0) (h0:σ.ob[r]?=some ⟨.box false T,true,g,c⟩) (hp:c.pure=true)
  (h:R0 (.ptr 0 0 [] 0) [⟨.box false T,true,0,c⟩]):Ev P ⟨W,fun _=>False,S⟩ N (post P f W S R0) (.code .ret::k) σ:=by
 refine xqe fun E a w R fn hfn=>?_;unfold xcd at hc;rw [hfn] at hc;simp only at hc;split at hc
 ·split at hc
  ·rename_i h1 h2
   simp only [Option.some.injEq,Prod.mk.injEq] at hc;obtain⟨_,_,rfl⟩:=hc;obtain⟨v,k1,k2⟩:=xgk R h2 hv;rw [hx] at k2;exact bodyPost_ret k1 R.df ⟨_,_,v,h,rfl,R.outP h0 hp k2⟩
  ·cases hc
 ·cases hc
theorem xgs:∀(xs:List V) (i j:Nat),xae (ents i xs) j=if i≤j then xs.getD (j-i) .junk else .junk
 |[],i,j=>by simp [ents,xae]
 |x::xs,i,j=>by
  simp only [ents,xae];split
  ·rename_i e;subst e;simp
  ·rename_i e
   rw [xgs xs (i+1) j];by_cases h:i+1≤j
   ·rw [if_pos h,if_pos (by omega),show j-i=(j-(i+1))+1 by omega]
    simp
   ·rw [if_neg h,if_neg (by omega)]
theorem xlu {E:Env} {w:World}:∀{xs:List V} {vs:List Value} (j:Nat),RdTs E w xs vs→RdT E w (xs.getD j .junk) (vs.getD j undef)
 |[],vs,j,h=>by simp only [List.getD_nil,RdT]
 |x::xs,vs,j,h=>by
  simp only [RdTs] at h;obtain⟨v,ys,rfl,h1,h2⟩:=h;cases j with
  |zero=>simpa using h1
  |succ j=>simpa using xlu j h2
theorem xjo {E:Env} {w:World}:∀{xs:List V} {vs:List Value},RdTs E w xs vs→vs.length=xs.length
 |[],vs,h=>by simp only [RdTs] at h;simp [h]
 |x::xs,vs,h=>by
  simp only [RdTs] at h;obtain⟨v,ys,rfl,h1,h2⟩:=h;simp [xjo h2]
theorem Fnc.intro {f:FuncId} {n:Nat} {m:MC} {rs:List POp} {xs:List V} {R0:V→List Ob→Prop} (hc:xcd P f=some (n,m,rs)) (hx:xs.length≤n)
  (h:∀W S,Ev P ⟨W,fun _=>False,S⟩ n (post P f W S R0) [.code m] ⟨n,ents 0 xs,[]⟩):Fnc P f xs R0:=by
 intro W S vs hS hvs;have hc':=hc;unfold xcd at hc;split at hc
 ·rename_i fn hfn
  split at hc
  ·rename_i c hb
   split at hc
   ·rename_i h1 h2
    simp only [Option.some.injEq,Prod.mk.injEq] at hc;obtain⟨rfl,rfl,rfl⟩:=hc;refine calls_of_wp hfn hb ?_;have hl:=xjo hvs;have L:Leads (argS S) W ⟨S,fun b=>W.heap.size≤b,[]⟩ W:=⟨fun b hb=>⟨hb,rfl⟩,fun _ h=>h.elim,by simp [argS],fun r g u hr=>by simp [argS] at hr⟩;have R:Rel ⟨W,fun _=>False,S⟩ ⟨S,fun b=>W.heap.size≤b,[]⟩ ⟨fn.ntmps,ents 0 xs,[]⟩ {tmps:=vs.toArray++Array.replicate (fn.ntmps-vs.toArray.size) undef,defers:=[]} W:=by
     refine⟨rfl,by simp [hl];omega,fun j=>?_,rfl,fun r o hr=>by simp at hr,fun r r' o o' g g' u u' b _ hr=>by simp at hr,hS,fun b=>Iff.rfl,fun b hb _=>hb,Keep.refl _ _⟩;rw [xgs,if_pos (Nat.zero_le _),Nat.sub_zero];have:=(xlu j hvs).mono L;by_cases hj:j<vs.length
     ·have e:(vs.toArray++Array.replicate (fn.ntmps-vs.toArray.size) undef).getD j undef=vs.getD j undef:=by
       simp [Array.getD_eq_getD_getElem?,Array.getElem?_append,hj]
      rw [e];exact this
     ·have e:xs.getD j .junk=.junk:=by simp [List.getD_eq_getElem?_getD,List.getElem?_eq_none (show xs.length≤j by omega)]
      simp only;rw [e];simp only [RdT]
    have:=(h W S).h rfl _ _ _ R;rw [xbo] at this;refine wp_mono (this c h1) fun e a w hq=>?_;cases e with
    |normal=>simp only [onX,wpS] at hq;exact hq fn hfn
    |exit id=>simp only [onX,xfe] at hq;exact hq fn hfn
    |goto l=>exact hq fn hfn
    |ret=>exact hq fn hfn
    |panic c=>exact hq fn hfn
    |outgrown=>exact hq fn hfn
   ·cases hc
  ·cases hc
 ·cases hc
end
end Rdn.Dp
namespace Rdn.Dp
open Go Go.RowKit Rdn
def ifW (w:Option Bool) (A B:Prop):Prop:=match w with
 |some true=>A
 |some false=>B
 |none=>False
def xdz (C:List RO→AS→Prop):List Unit→List RO→AS→Prop
 |[],l,σ=>C l σ
 |_::_,[],σ=>C [] σ
 |_::fu,⟨d,gd,.p m⟩::l,σ=>ifW (xat σ gd) ((aopP σ m).2∧xdz C fu l (σ.put d (aopP σ m).1)) (xdz C fu l (σ.put d (.tup [])))
 |_::fu,⟨d,gd,.m m⟩::l,σ=>ifW (xat σ gd) ((xfk σ m).2∧xat (xfk σ m).1 gd=some true∧(aopM (xfk σ m).1 m).2.2∧(aopM (xfk σ m).1 m).2.1.n=(xfk σ m).1.n∧xdz C fu l ((aopM (xfk σ m).1 m).2.1.put d (aopM (xfk σ m).1 m).1)) (xdz C fu l (σ.put d (.tup [])))
 |_::_,⟨d,gd,.call f xs⟩::l,σ=>C (⟨d,gd,.call f xs⟩::l) σ
 |_::_,⟨d,gd,.callv x xs⟩::l,σ=>C (⟨d,gd,.callv x xs⟩::l) σ
def doP (E:List RO→AS→Prop) (r:V×Prop) (d:Option Nat) (l:List RO) (σ:AS):Prop:=r.2∧E l (σ.put d r.1)
def doM (E:List RO→AS→Prop) (r:V×AS×Prop) (d:Option Nat) (l:List RO) (n:Nat):Prop:=r.2.2∧r.2.1.n=n∧E l (r.2.1.put d r.1)
def doC (E:List RO→AS→Prop) (p:AS×Prop) (gd:Option (Nat×Bool)) (m:MOp) (d:Option Nat) (l:List RO):Prop:=p.2∧xat p.1 gd=some true∧doM E (aopM p.1 m) d l p.1.n
def doG (E:List RO→AS→Prop) (w:Option Bool) (gd:Option (Nat×Bool)) (o:RK) (d:Option Nat) (l:List RO) (σ:AS):Prop:=ifW w (match o with| .p m=>doP E (aopP σ m) d l σ| .m m=>doC E (xfk σ m) gd m d l| .call _ _=>False| .callv _ _=>False) (E l (σ.put d (.tup [])))
theorem evRe (C:List RO→AS→Prop) (l:List RO) (σ:AS):xdz C [] l σ=C l σ:=rfl
theorem evR0 (C:List RO→AS→Prop) (u:Unit) (fu:List Unit) (σ:AS):xdz C (u::fu) [] σ=C [] σ:=rfl
theorem evRc (C:List RO→AS→Prop) (u:Unit) (fu:List Unit) (d:Option Nat) (gd:Option (Nat×Bool)) (f:FuncId) (xs:List X) (l:List RO) (σ:AS):xdz C (u::fu) (⟨d,gd,.call f xs⟩::l) σ=C (⟨d,gd,.call f xs⟩::l) σ:=rfl
theorem evRv (C:List RO→AS→Prop) (u:Unit) (fu:List Unit) (d:Option Nat) (gd:Option (Nat×Bool)) (x:X) (xs:List X) (l:List RO) (σ:AS):xdz C (u::fu) (⟨d,gd,.callv x xs⟩::l) σ=C (⟨d,gd,.callv x xs⟩::l) σ:=rfl
theorem evRp (C:List RO→AS→Prop) (u:Unit) (fu:List Unit) (d:Option Nat) (m:POp) (l:List RO) (σ:AS):xdz C (u::fu) (⟨d,none,.p m⟩::l) σ=doP (xdz C fu) (aopP σ m) d l σ:=rfl
theorem evRm (C:List RO→AS→Prop) (u:Unit) (fu:List Unit) (d:Option Nat) (m:MOp) (l:List RO) (σ:AS):xdz C (u::fu) (⟨d,none,.m m⟩::l) σ=doC (xdz C fu) (xfk σ m) none m d l:=rfl
theorem doC1 (E:List RO→AS→Prop) (σ:AS) (gd:Option (Nat×Bool)) (m:MOp) (d:Option Nat) (l:List RO):doC E (σ,True) gd m d l=(xat σ gd=some true∧doM E (aopM σ m) d l σ.n):=by simp [doC]
theorem doC2 (E:List RO→AS→Prop) (σ:AS) (c:Prop) (gd:Option (Nat×Bool)) (m:MOp) (d:Option Nat) (l:List RO):doC E (σ,c) gd m d l=(c∧xat σ gd=some true∧doM E (aopM σ m) d l σ.n):=rfl
theorem ylc (σ:AS):(xat σ none=some true)=True:=by simp [xat]
theorem evRgp (C:List RO→AS→Prop) (u:Unit) (fu:List Unit) (d:Option Nat) (g:Nat×Bool) (m:POp) (l:List RO) (σ:AS):xdz C (u::fu) (⟨d,some g,.p m⟩::l) σ=doG (xdz C fu) (xat σ (some g)) (some g) (.p m) d l σ:=rfl
theorem evRgm (C:List RO→AS→Prop) (u:Unit) (fu:List Unit) (d:Option Nat) (g:Nat×Bool) (m:MOp) (l:List RO) (σ:AS):xdz C (u::fu) (⟨d,some g,.m m⟩::l) σ=doG (xdz C fu) (xat σ (some g)) (some g) (.m m) d l σ:=rfl
theorem doGF (E:List RO→AS→Prop) (gd:Option (Nat×Bool)) (o:RK) (d:Option Nat) (l:List RO) (σ:AS):doG E (some false) gd o d l σ=E l (σ.put d (.tup [])):=rfl
theorem doGP (E:List RO→AS→Prop) (gd:Option (Nat×Bool)) (m:POp) (d:Option Nat) (l:List RO) (σ:AS):doG E (some true) gd (.p m) d l σ=doP E (aopP σ m) d l σ:=rfl
theorem doGM (E:List RO→AS→Prop) (gd:Option (Nat×Bool)) (m:MOp) (d:Option Nat) (l:List RO) (σ:AS):doG E (some true) gd (.m m) d l σ=doC E (xfk σ m) gd m d l:=rfl
theorem doP1 (E:List RO→AS→Prop) (x:V) (c:Prop) (i:Nat) (l:List RO) (n:Nat) (t:List (Nat×V)) (ob:List Ob):doP E (x,c) (some i) l ⟨n,t,ob⟩=(c∧E l ⟨n,(i,x)::t,ob⟩):=rfl
theorem doM1 (E:List RO→AS→Prop) (x:V) (c:Prop) (i:Nat) (l:List RO) (n:Nat) (t:List (Nat×V)) (ob:List Ob):doM E (x,⟨n,t,ob⟩,c) (some i) l n=(c∧E l ⟨n,(i,x)::t,ob⟩):=by simp [doM,AS.put]
theorem doM0 (E:List RO→AS→Prop) (x:V) (c:Prop) (l:List RO) (n:Nat) (t:List (Nat×V)) (ob:List Ob):doM E (x,⟨n,t,ob⟩,c) none l n=(c∧E l ⟨n,t,ob⟩):=by simp [doM,AS.put]
theorem xl9 {w:Option Bool} {A B:Prop} (h:ifW w A B):(w=some true∧A)∨(w=some false∧B):=by
 unfold ifW at h;split at h
 ·exact .inl ⟨rfl,h⟩
 ·exact .inr ⟨rfl,h⟩
 ·exact h.elim
theorem yjs {P:Program} {cx:Cx} {N:Nat} {Q:Exit→Act→World→Prop} {k:List It} {σ:AS} {d:Option Nat} {gd:Option (Nat×Bool)} {m:MOp} {l:List RO} (hk:(xfk σ m).2) (hw:xat (xfk σ m).1 gd=some true) (hc:(aopM (xfk σ m).1 m).2.2) (hnn:(aopM (xfk σ m).1 m).2.1.n=(xfk σ m).1.n) (h:EvR P cx N Q k l ((aopM (xfk σ m).1 m).2.1.put d (aopM (xfk σ m).1 m).1)):EvR P cx N Q k (⟨d,gd,.m m⟩::l) σ:=by
 have h1:=evr_m (d:=d) hw hc hnn h;refine⟨fun hn E a w R=>?_⟩;obtain⟨E',R',hn'⟩:=R.calmO hk;exact h1.h (hn'.trans hn) E' a w R'
theorem xb1 {P:Program} {cx:Cx} {N:Nat} {Q:Exit→Act→World→Prop} {k:List It}:∀{fu:List Unit} {l:List RO} {σ:AS},xdz (EvR P cx N Q k) fu l σ→EvR P cx N Q k l σ
 |[],l,σ,h=>h
 |_::_,[],σ,h=>h
 |_::fu,⟨d,gd,.p m⟩::l,σ,h=>by
  rcases xl9 h with ⟨hw,h⟩|⟨hw,h⟩
  ·exact xy0 hw h.1 (xb1 h.2)
  ·exact xj9 hw (xb1 h)
 |_::fu,⟨d,gd,.m m⟩::l,σ,h=>by
  rcases xl9 h with ⟨hw,h⟩|⟨hw,h⟩
  ·exact yjs h.1 h.2.1 h.2.2.1 h.2.2.2.1 (xb1 h.2.2.2.2)
  ·exact xj9 hw (xb1 h)
 |_::_,⟨d,gd,.call f xs⟩::l,σ,h=>h
 |_::_,⟨d,gd,.callv x xs⟩::l,σ,h=>h
theorem xb0 {P:Program} {cx:Cx} {N:Nat} {Q:Exit→Act→World→Prop} {k:List It} {l:List RO} {σ:AS} (h:xdz (EvR P cx N Q k) [(),(),(),(),(),(),(),()] l σ):Ev P cx N Q (.code (.reg l)::k) σ:=xcv (xb1 h)
theorem yg3 {P:Program} {cx:Cx} {N:Nat} {Q:Exit→Act→World→Prop} {k:List It} {d:Option Nat} {gd:Option (Nat×Bool)} {m:POp} {l:List RO} {σ:AS} (h:xdz (EvR P cx N Q k) [(),(),(),(),(),(),(),()] (⟨d,gd,.p m⟩::l) σ):EvR P cx N Q k (⟨d,gd,.p m⟩::l) σ:=xb1 h
theorem yg2 {P:Program} {cx:Cx} {N:Nat} {Q:Exit→Act→World→Prop} {k:List It} {d:Option Nat} {gd:Option (Nat×Bool)} {m:MOp} {l:List RO} {σ:AS} (h:xdz (EvR P cx N Q k) [(),(),(),(),(),(),(),()] (⟨d,gd,.m m⟩::l) σ):EvR P cx N Q k (⟨d,gd,.m m⟩::l) σ:=xb1 h
theorem xl5 {P:Program} {cx:Cx} {N:Nat} {Q:Exit→Act→World→Prop} {k:List It} {σ:AS} {x:X} {y z:MC} (hx:x.ev σ=.bool true) (h:Ev P cx N Q (.code y::k) σ):Ev P cx N Q (.code (.cond x y z)::k) σ:=xxr hx (fun _=>h) (fun e=>by cases e)
theorem xl4 {P:Program} {cx:Cx} {N:Nat} {Q:Exit→Act→World→Prop} {k:List It} {σ:AS} {x:X} {y z:MC} (hx:x.ev σ=.bool false) (h:Ev P cx N Q (.code z::k) σ):Ev P cx N Q (.code (.cond x y z)::k) σ:=xxr hx (fun e=>by cases e) (fun _=>h)
theorem bTF:(true==false)=false:=rfl
theorem bFT:(false==true)=false:=rfl
theorem decT {p:Prop} [Decidable p] (h:p):decide p=true:=decide_eq_true h
theorem decF {p:Prop} [Decidable p] (h:¬p):decide p=false:=decide_eq_false h
theorem beqT {a b:Int} (h:a=b):(a==b)=true:=by simp [h]
theorem beqF {a b:Int} (h:a≠b):(a==b)=false:=by simp [h]
theorem bneT {a b:Int} (h:a≠b):(a !=b)=true:=by simp [h]
theorem bneF {a b:Int} (h:a=b):(a !=b)=false:=by simp [h]
section
variable {P:Program} {cx:Cx} {N:Nat} {Q:Exit→Act→World→Prop} {k:List It} {n:Nat} {t:List (Nat×V)} {ob:List Ob} {l:List RO} {gd:Option (Nat×Bool)}
theorem yan {i:Nat} {f:FuncId} {xs:List X} (ys:List V) {ws:List V} {R0:V→List Ob→Prop} (hF:Fnc P f ys R0) (hw:xat ⟨n,t,ob⟩ gd=some true) (hx:xs.map (X.ev ⟨n,t,ob⟩)=ws) (hok:V.ressOk ⟨n,t,ob⟩ ws∧xfh ws)
  (hs:Subs (V.lows (V.ress ⟨n,t,ob⟩ [] ws)) ys) (hq:∀x obs,R0 x obs→xkd ws x obs) (h:∀x obs,R0 x obs→EvR P cx N Q k l ⟨n,(i,x.shift ob.length)::t,ob++obs.map (Ob.shift ob.length)⟩):EvR P cx N Q k (⟨some i,gd,.call f xs⟩::l) ⟨n,t,ob⟩:=by
 subst hx;exact ybr ys R0 hF hw hok.1 hok.2 hs hq h
theorem yih (t':List (Nat×V)) {ob':List Ob} (m:Nat) (ho:ob.take m=ob') (hm:m≤ob.length) (ht:∀x∈t',xae t x.1=xae t' x.1) (hs:∀x∈t',x.2.scp m=true) (hs':∀o∈ob',o.scp m=true) (h:Ev P cx N Q k ⟨n,t',ob'⟩):Ev P cx N Q k ⟨n,t,ob⟩:=by
 subst ho;exact yfz hm ht hs hs' h
theorem yap {f:FuncId} {W:World} {S:Nat→Prop} {R0:V→List Ob→Prop} {n0:Nat} {m:MC} {rs:List POp} {y z:V} {c:Prop} {obs:List Ob} (hc:xcd P f=some (n0,m,rs)) (ids:List Nat) (hv:retV ⟨n,t,ob⟩ rs=(y,c)) (hcc:c) (ho:xiz ⟨n,t,ob⟩ ids) (hp:V.resOk ⟨n,t,ob⟩ y) (hz:y.res ⟨n,t,ob⟩ ids=z)
  (hobs:xgh ⟨n,t,ob⟩ ids=obs) (h:R0 z obs):Ev P ⟨W,fun _=>False,S⟩ N (post P f W S R0) (.code .ret::k) ⟨n,t,ob⟩:=by
 subst hz hobs;exact xxw hc ids (by rw [hv];exact hcc) ho (by rw [hv];exact hp) (by rw [hv];exact h)
theorem Fnc.low {f:FuncId} {xs:List V} {R0:V→List Ob→Prop} (h:Fnc P f xs fun x obs=>R0 x.low (obs.map Ob.low)):Fnc P f xs R0:=fun w S vs hS hvs=>(h w S vs hS hvs).mono (by
 rintro e w' ⟨x,obs,v,h1,h2,h3⟩
 exact⟨_,_,v,h1,h2,h3.low⟩)
theorem Fnc.mono {f:FuncId} {xs:List V} {R0 R1:V→List Ob→Prop} (h:Fnc P f xs R0) (hR:∀x obs,R0 x obs→R1 x obs):Fnc P f xs R1:=fun w S vs hS hvs=>(h w S vs hS hvs).mono (by
 rintro e w' ⟨x,obs,v,h1,h2,h3⟩
 exact⟨x,obs,v,hR _ _ h1,h2,h3⟩)
theorem xwj {f:FuncId} {W:World} {S:Nat→Prop} {R0:V→List Ob→Prop} {n0:Nat} {m:MC} {rs:List POp} {r g:Nat} {T:TypeId} {d:V} {c:Prop} (hc:xcd P f=some (n0,m,rs)) (hv:retV ⟨n,t,ob⟩ rs=(.ptr r g [] 0,c)) (hcc:c) (h0:ob[r]?=some ⟨.box false T,true,g,d⟩) (hp:d.pure=true)
  (h:R0 (.ptr 0 0 [] 0) [⟨.box false T,true,0,d⟩]):Ev P ⟨W,fun _=>False,S⟩ N (post P f W S R0) (.code .ret::k) ⟨n,t,ob⟩:=
 xvw hc (by rw [hv];exact hcc) (by rw [hv]) h0 hp h
theorem xcy {i e s:Nat} (hi:xae t i=.nilS) (hs:0<s) (h:Ev P cx N Q k ⟨n,(i,.own ob.length 0)::t,ob++[⟨.row e,true,0,.arr s []⟩]⟩):Ev P cx N Q k ⟨n,t,ob⟩:=by
 refine⟨fun hn E a w R=>?_⟩;have hv:=R.tm i;have hv:RdT E w (xae t i) (a.tmps.getD i undef):=hv;rw [hi] at hv;simp only [RdT,RdV,List.cons.injEq,and_true] at hv;obtain⟨L,R'⟩:=R.new (w':=w) (o:=⟨.row e,true,0,.arr s []⟩) (u:=.slice none 0 0) (Below.refl _ _) (fun b hb=>by simp [blk] at hb) rfl rfl (by
  unfold OkO;exact⟨s,[],[],rfl,rfl,by simp [Unif],hs,by simp,World.ownsRow_nil _ _ _ _,by simp [RdL],fun b hb=>by simp [blk] at hb⟩)
 refine h.h hn _ a w ⟨R'.df,R'.n,fun j=>?_,R'.len,R'.ob,R'.sep,R'.lt,R'.fr,R'.old,R'.keep⟩;simp only [xae];split
 ·rename_i e;subst e
  rw [hv];simp only [RdT,RdV];refine⟨_,rfl,rfl,by simp [R.len],fun gc u h=>?_⟩;have hl:E.ref.length=ob.length:=R.len;rw [←hl,List.getElem?_append_right (Nat.le_refl _)] at h;simp at h;obtain⟨h1,h2⟩:=h;subst h1;exact⟨Nat.le_refl _,fun _=>h2⟩
 ·exact R'.tm j
end
theorem xb6 {α:Type} [Inhabited α] (f:α→V) (l:List α) (k:Nat) (h:k<l.length):(l.map f).getD k .junk=f (l[k]!):=by
 simp [List.getD_eq_getElem?_getD,h]
theorem xaq {e:Int} (h0:-9223372036854775808≤e) (h1:e≤9223372036854775807):IntKind.i64.wrap e=e:=by simp [IntKind.wrap,IntKind.bits,IntKind.signed];omega
theorem xto {e:Int} (h0:0≤e) (h1:e≤65535):IntKind.u16.wrap e=e:=by simp [IntKind.wrap,IntKind.bits,IntKind.signed];omega
theorem modU8 (e:Int):IntKind.u8.wrap e=e % 256:=by simp [IntKind.wrap,IntKind.bits,IntKind.signed]
theorem xbs (e:Int):IntKind.u16.wrap e=e % 65536:=by simp [IntKind.wrap,IntKind.bits,IntKind.signed]
theorem ykg (e:Int):IntKind.u32.wrap e=e % 4294967296:=by simp [IntKind.wrap,IntKind.bits,IntKind.signed]
theorem ykh (e:Int):IntKind.u64.wrap e=e % 18446744073709551616:=by simp [IntKind.wrap,IntKind.bits,IntKind.signed]
theorem xbv {e m:Int} (h0:0≤e) (h1:e<m):e % m=e:=Int.emod_eq_of_lt h0 h1
theorem xen {a b:Int} (h:0≤b):a.fdiv b=a / b:=Int.fdiv_eq_ediv_of_nonneg a h
theorem xeu {a b:Int} (h:0≤a):a.tmod b=a % b:=Int.tmod_eq_emod_of_nonneg h
theorem xet {a b:Int} (h:0≤a):a.tdiv b=a / b:=Int.tdiv_eq_ediv_of_nonneg h
theorem xbl {α:Type} [Inhabited α] {l:List α} {k:Nat} (h:k<l.length):l.take (k+1)=l.take k++[l[k]!]:=by
 rw [List.take_succ_eq_append_getElem h];simp [h]
theorem xc9 {α:Type} [Inhabited α] {l:List α} {k:Nat} (h:k<l.length):l[k]!∈l:=by
 rw [List.getElem!_eq_getElem?_getD,List.getElem?_eq_getElem h];exact List.getElem_mem h
theorem xmz {α:Type} (f:α→V) (l:List α) (h:∀a,(f a).pure=true):V.pures (l.map f)=true:=pures_iff.2 fun x hx=>by obtain⟨a,_,rfl⟩:=List.mem_map.1 hx;exact h a
theorem xia (l m:List V):V.pures (l++m)=(V.pures l && V.pures m):=by
 induction l with
 |nil=>simp [V.pures]
 |cons x l ih=>simp [V.pures,ih,Bool.and_assoc]
theorem xgb {α:Type} (f:α→V) (l:List α) (h:∀a,(f a).fresh=true):V.freshs (l.map f)=true:=freshs_iff.2 fun x hx=>by obtain⟨a,_,rfl⟩:=List.mem_map.1 hx;exact h a
theorem ygm {α:Type} (f g:α→V) (l:List α) (h:∀a,(f a).low=g a):V.lows (l.map f)=l.map g:=by rw [xcz,List.map_map];exact List.map_congr_left fun a _=>h a
end Rdn.Dp
namespace Rdn.Dp
open Go Go.RowKit Rdn
mutual
theorem V.scp_pure (m:Nat):∀x:V,x.pure=true→x.scp m=true
 | .sl t s l,_=>rfl
 | .agg l,h=>by simp only [V.pure] at h;simp only [V.scp,V.scps_pure m l h]
 | .arr s l,h=>by simp only [V.pure] at h;simp only [V.scp,V.scps_pure m l h]
 | .tup l,h=>by simp [V.pure] at h
 | .clo f l,h=>by simp [V.pure] at h
 | .int k n,_=>rfl
 | .bool b,_=>rfl
 | .str s,_=>rfl
 | .nilS,_=>rfl
 | .own r g,h=>by simp [V.pure] at h
 | .ptr r g p o,h=>by simp [V.pure] at h
 | .osl r g s a b,h=>by simp [V.pure] at h
 | .rp x,h=>by simp [V.pure] at h
 | .fn f,_=>rfl
 | .lit f,_=>rfl
 | .junk,_=>rfl
theorem V.scps_pure (m:Nat):∀l:List V,V.pures l=true→V.scps m l=true
 |[],_=>rfl
 |x::l,h=>by simp only [V.pures,Bool.and_eq_true] at h;simp only [V.scps,V.scp_pure m x h.1,V.scps_pure m l h.2,Bool.and_self]
end
section
variable {E:Env} {w:World}
mutual
theorem RdV.scp:∀{x:V} {cs:List Value},RdV E w x cs→x.scp E.ref.length=true
 | .sl t s l,cs,h=>rfl
 | .agg l,cs,h=>by simp only [RdV] at h;simp only [V.scp];exact h.scp
 | .arr s l,cs,h=>by simp only [RdV] at h;simp only [V.scp];exact h.1.scp
 | .tup l,cs,h=>by simp only [RdV] at h
 | .clo f l,cs,h=>by simp only [RdV] at h
 | .int k n,cs,h=>rfl
 | .bool b,cs,h=>rfl
 | .str s,cs,h=>rfl
 | .nilS,cs,h=>rfl
 | .own r g,cs,h=>by simp only [RdV] at h;obtain⟨v,_,_,h3,_⟩:=h;simpa [V.scp] using h3
 | .ptr r g p o,cs,h=>by simp only [RdV] at h;obtain⟨v,_,_,h3,_⟩:=h;simpa [V.scp] using h3
 | .osl r g s a b,cs,h=>by simp only [RdV] at h;obtain⟨v,_,_,h3,_⟩:=h;simpa [V.scp] using h3
 | .rp x,cs,h=>by simp only [RdV] at h;simpa only [V.scp] using h.1
 | .fn f,cs,h=>rfl
 | .lit f,cs,h=>rfl
 | .junk,cs,h=>rfl
theorem RdL.scp:∀{l:List V} {cs:List Value},RdL E w l cs→V.scps E.ref.length l=true
 |[],cs,h=>rfl
 |a::l,cs,h=>by
  simp only [RdL] at h;obtain⟨c,ys,_,h1,h2⟩:=h;simp only [V.scps,h1.scp,h2.scp,Bool.and_self]
end
mutual
theorem RdT.scp:∀{x:V} {v:Value},RdT E w x v→x.scp E.ref.length=true
 | .sl t s l,cs,h=>rfl
 | .agg l,cs,h=>by simp only [RdT] at h;obtain⟨_,_,h⟩:=h;exact h.scp
 | .arr s l,cs,h=>by simp only [RdT] at h;obtain⟨_,_,h⟩:=h;exact h.scp
 | .tup l,cs,h=>by simp only [RdT] at h;obtain⟨_,_,h⟩:=h;simp only [V.scp];exact h.scp
 | .clo f l,cs,h=>by simp only [RdT] at h;obtain⟨_,_,h⟩:=h;simp only [V.scp];exact h.scp
 | .int k n,cs,h=>rfl
 | .bool b,cs,h=>rfl
 | .str s,cs,h=>rfl
 | .nilS,cs,h=>rfl
 | .own r g,cs,h=>by simp only [RdT] at h;exact h.scp
 | .ptr r g p o,cs,h=>by simp only [RdT] at h;exact h.scp
 | .osl r g s a b,cs,h=>by simp only [RdT] at h;exact h.scp
 | .rp x,cs,h=>by simp only [RdT] at h;exact h.scp
 | .fn f,cs,h=>rfl
 | .lit f,cs,h=>rfl
 | .junk,cs,h=>rfl
theorem RdTs.scp:∀{l:List V} {vs:List Value},RdTs E w l vs→V.scps E.ref.length l=true
 |[],cs,h=>rfl
 |a::l,cs,h=>by
  simp only [RdTs] at h;obtain⟨c,ys,_,h1,h2⟩:=h;simp only [V.scps,h1.scp,h2.scp,Bool.and_self]
end
end
section
variable {cx:Cx} {E E':Env} {σ:AS} {a:Act} {w w':World} {P:Program}
theorem OkO.scp {o:Ob} {u:Value} (h:OkO cx E w o u):o.scp E.ref.length=true:=by
 unfold OkO at h;unfold Ob.scp;split at h
 ·obtain⟨b,cs,_,_,h3,_⟩:=h
  exact h3.scp
 ·rfl
 ·obtain⟨_,s,l,xs,h1,_,_,_,_,h7,_⟩:=h
  rw [h1];simp only [V.scp];exact h7.scp
def resv:Ob:=⟨.row 0,true,0,.arr 1 []⟩
theorem Rel.place (R:Rel cx E σ a w) (L:Leads E w E' w') {o:Ob} (R':Rel cx E' {σ with ob:=σ.ob++[o]} a w') (hl:o.live=true) (hg:o.g=0) (ho:o.scp σ.ob.length=true) {r:Nat} (hr:σ.ob[r]?=some resv):
  ∃E'' u,E'.ref[σ.ob.length]?=some (0,u)∧E''.ref[r]?=some (1,u)∧Leads E w E'' w'∧Rel cx E'' {σ with ob:=σ.ob.set r {o with g:=1}} a w'∧∀x cs,x.pure=true→RdV E' w' x cs→RdV E'' w' x cs:=by
 obtain⟨u,hu,hok⟩:=R'.ob σ.ob.length o (by simp);rw [hg] at hu;have hle:σ.ob.length≤E'.ref.length:=by rw [R'.len];simp
 have rl:r<σ.ob.length:=(List.getElem?_eq_some_iff.1 hr).1;have Rc:=R'.cut σ.ob.length (by simp) (fun i=>by have:=(R.tm i).scp;rwa [R.len] at this) (fun o' ho'=>by
  have ho':o'∈σ.ob:=by simpa using ho'
  obtain⟨j,hj,e⟩:=List.mem_iff_getElem.1 ho';obtain⟨u',_,k⟩:=R.ob j o' (by rw [List.getElem?_eq_getElem hj,e]);have:=k.scp
  rwa [R.len] at this)
 have Rc:Rel cx {E' with ref:=E'.ref.take σ.ob.length} σ a w':=by
  have e:(σ.ob++[o]).take σ.ob.length=σ.ob:=by simp
  simp only [e] at Rc;exact Rc
 have hokc:=hok.cut (m:=σ.ob.length) hle ho;have Lc:Leads E w {E' with ref:=E'.ref.take σ.ob.length} w':=⟨L.b,L.f,by simp only [List.length_take,R.len];omega,fun q g v hq h=>by
  refine L.ref q g v hq ?_;rw [List.getElem?_take] at h;split at h
  ·exact h
  ·cases h⟩
 have fr:∀q:Nat,q≠σ.ob.length→∀x,(E'.ref.take σ.ob.length)[q]?=some x→E'.ref[q]?=some x:=by
  intro q _ x h;rw [List.getElem?_take] at h;split at h
  ·exact h
  ·cases h
 obtain⟨u0,k1,k2⟩:=Rc.ob r resv hr;generalize hEc:({E' with ref:=E'.ref.take σ.ob.length}:Env)=Ec at *;have hB:Ec.B=E'.B:=by rw [←hEc]
 have hrr:Ec.ref=E'.ref.take σ.ob.length:=by rw [←hEc]
 have hrl:r<Ec.ref.length:=(List.getElem?_eq_some_iff.1 k1).1;have k1:Ec.ref[r]?=some (0,u0):=k1;have L2:Leads Ec w' {Ec with ref:=Ec.ref.set r (1,u)} w':=by
  refine⟨fun b hb=>⟨hb,rfl⟩,fun _ h=>h,by simp,fun q g v hq h=>?_⟩;by_cases e:r=q
  ·subst e
   rw [List.getElem?_set_self hrl] at h;injection h with h
   injection h with h1 h2
   subst h1;exact⟨0,u0,k1,by omega,fun e=>by omega⟩
  ·rw [List.getElem?_set_ne e] at h
   exact⟨g,v,h,Nat.le_refl _,fun _=>rfl⟩
 refine⟨{Ec with ref:=Ec.ref.set r (1,u)},u,hu,by rw [List.getElem?_set_self hrl],Lc.trans L2,⟨Rc.df,Rc.n,fun i=>(Rc.tm i).mono L2,by simp [Rc.len],fun q o1 h1=>?_,fun q1 q2 o1 o2 g1 g2 u1 u2 b h1 h2 h3 h4 h5 h6 h7 h8 h9=>?_,Rc.lt,Rc.fr,Rc.old,Rc.keep⟩,fun x cs hp hx=>?_⟩
 ·by_cases e:r=q
  ·subst e
   rw [List.getElem?_set_self rl] at h1;obtain rfl:=Option.some.inj h1;exact⟨u,by rw [List.getElem?_set_self hrl],hokc.keep L2 (fun _ _=>rfl) (fun _ _ _ h=>h)⟩
  ·rw [List.getElem?_set_ne e] at h1
   obtain⟨v1,m1,m2⟩:=Rc.ob q o1 h1;exact⟨v1,by rw [List.getElem?_set_ne e];exact m1,m2.keep L2 (fun _ _=>rfl) (fun _ _ _ h=>h)⟩
 ·have key:∀q o2 g2 u2,r≠q→(σ.ob.set r {o with g:=1})[q]?=some o2→o2.live=true→(Ec.ref.set r (1,u))[q]?=some (g2,u2)→blk u=some b→blk u2=some b→False:=by
   intro q o2 g2 u2 e h1 h2 h3 h4 h5;rw [List.getElem?_set_ne e] at h1 h3;have hq:q<σ.ob.length:=(List.getElem?_eq_some_iff.1 h1).1;refine R'.sep σ.ob.length q o o2 0 g2 u u2 b (by omega) (by simp) ?_ hl h2 hu (fr q (by omega) _ (by rw [←hrr];exact h3)) h4 h5;show(σ.ob++[o])[q]?=some o2;rw [List.getElem?_append_left hq];exact h1
  by_cases e1:r=q1
  ·subst e1
   have e2:=h6;rw [List.getElem?_set_self hrl] at e2;injection e2 with e2
   injection e2 with _ e2
   subst e2;exact key q2 o2 g2 u2 h1 h3 h5 h7 h8 h9
  ·by_cases e2:r=q2
   ·subst e2
    have e3:=h7;rw [List.getElem?_set_self hrl] at e3;injection e3 with e3
    injection e3 with _ e3
    subst e3;exact key q1 o1 g1 u1 e1 h2 h4 h6 h9 h8
   ·rw [List.getElem?_set_ne e1] at h2 h6
    rw [List.getElem?_set_ne e2] at h3 h7;exact Rc.sep q1 q2 o1 o2 g1 g2 u1 u2 b h1 h2 h3 h4 h5 h6 h7 h8 h9
 ·have h2:RdV Ec w' x cs:=by
   rw [←hEc];exact hx.cutp hp
  exact h2.mono L2
theorem Rel.placeRow (R:Rel cx E σ a w) (L:Leads E w E' w') {o:Ob} {v:Value} (hv:RdT E' w' (.own σ.ob.length 0) v) (R':Rel cx E' {σ with ob:=σ.ob++[o]} a w') (hl:o.live=true) (hg:o.g=0) (ho:o.scp σ.ob.length=true) {r:Nat} (hr:σ.ob[r]?=some resv):
  ∃E'',Leads E w E'' w'∧RdT E'' w' (.own r 1) v∧Rel cx E'' {σ with ob:=σ.ob.set r {o with g:=1}} a w':=by
 obtain⟨E'',u,k1,k2,k3,k4,_⟩:=R.place L R' hl hg ho hr;refine⟨E'',k3,?_,k4⟩;simp only [RdT,RdV] at hv⊢;obtain⟨v',m1,m2,m3,m4⟩:=hv;obtain rfl:=(m4 0 u k1).2 rfl;refine⟨v',m1,m2,(List.getElem?_eq_some_iff.1 k2).1,fun gc u' h=>?_⟩;rw [k2] at h;injection h with h
 injection h with h1 h2
 subst h1 h2;exact⟨Nat.le_refl _,fun _=>rfl⟩
mutual
def V.up (nx:Nat):V→V
 | .own _ _=> .own nx 1
 | .agg l=> .agg (V.ups nx l)
 | .tup l=> .tup l
 | .clo f l=> .clo f l
 | .sl t s l=> .sl t s l
 | .arr s l=> .arr s l
 | .int k n=> .int k n
 | .bool b=> .bool b
 | .str s=> .str s
 | .nilS=> .nilS
 | .ptr r g p o=> .ptr r g p o
 | .osl r g s a b=> .osl r g s a b
 | .rp x=> .rp x
 | .fn f=> .fn f
 | .lit f=> .lit f
 | .junk=> .junk
def V.ups (nx:Nat):List V→List V
 |[]=>[]
 |x::l=>x.up nx::V.ups nx l
end
mutual
def V.upOk:V→Bool
 | .own r g=>r==0 && g==0
 | .agg l=>V.upsOk l
 | .tup _=>false
 | .clo _ _=>false
 | .sl _ _ _=>true
 | .arr _ l=>V.pures l
 | .int _ _=>true
 | .bool _=>true
 | .str _=>true
 | .nilS=>true
 | .ptr _ _ _ _=>false
 | .osl _ _ _ _ _=>false
 | .rp _=>false
 | .fn _=>false
 | .lit _=>false
 | .junk=>false
def V.upsOk:List V→Bool
 |[]=>true
 |x::l=>x.upOk && V.upsOk l
end
section
variable {E1 E2:Env} {w1:World} {m nx:Nat}
mutual
theorem yiq (key:∀cs,RdV E1 w1 (.own m 0) cs→RdV E2 w1 (.own nx 1) cs) (pu:∀x cs,x.pure=true→RdV E1 w1 x cs→RdV E2 w1 x cs):∀{x:V} {cs:List Value},x.upOk=true→RdV E1 w1 (x.shift m) cs→RdV E2 w1 (x.up nx) cs
 | .own r g,cs,h,hr=>by
  simp only [V.upOk,Bool.and_eq_true,beq_iff_eq] at h;obtain⟨rfl,rfl⟩:=h;simp only [V.shift,V.up] at hr⊢;exact key cs hr
 | .agg l,cs,h,hr=>by
  simp only [V.upOk] at h;simp only [V.shift,V.up,RdV] at hr⊢;exact yf8 key pu h hr
 | .tup l,cs,h,hr=>by simp [V.upOk] at h
 | .clo f l,cs,h,hr=>by simp [V.upOk] at h
 | .sl t s l,cs,h,hr=>by simp only [V.shift,V.up] at hr⊢;exact pu _ _ rfl hr
 | .arr s l,cs,h,hr=>by rw [V.shift_pure m _ (show(V.arr s l).pure=true from h)] at hr;simp only [V.up];exact pu (.arr s l) _ h hr
 | .int k n,cs,h,hr=>by simp only [V.shift,V.up] at hr⊢;exact pu _ _ rfl hr
 | .bool b,cs,h,hr=>by simp only [V.shift,V.up] at hr⊢;exact pu _ _ rfl hr
 | .str s,cs,h,hr=>by simp only [V.shift,V.up] at hr⊢;exact pu _ _ rfl hr
 | .nilS,cs,h,hr=>by simp only [V.shift,V.up] at hr⊢;exact pu _ _ rfl hr
 | .ptr r g p o,cs,h,hr=>by simp [V.upOk] at h
 | .osl r g s a b,cs,h,hr=>by simp [V.upOk] at h
 | .rp x,cs,h,hr=>by simp [V.upOk] at h
 | .fn f,cs,h,hr=>by simp [V.upOk] at h
 | .lit f,cs,h,hr=>by simp [V.upOk] at h
 | .junk,cs,h,hr=>by simp [V.upOk] at h
theorem yf8 (key:∀cs,RdV E1 w1 (.own m 0) cs→RdV E2 w1 (.own nx 1) cs) (pu:∀x cs,x.pure=true→RdV E1 w1 x cs→RdV E2 w1 x cs):∀{l:List V} {cs:List Value},V.upsOk l=true→RdL E1 w1 (V.shifts m l) cs→RdL E2 w1 (V.ups nx l) cs
 |[],cs,_,hr=>by simpa only [V.shifts,V.ups,RdL] using hr
 |x::l,cs,h,hr=>by
  simp only [V.upsOk,Bool.and_eq_true] at h;simp only [V.shifts,V.ups,RdL] at hr⊢;obtain⟨c,ys,rfl,h1,h2⟩:=hr;exact⟨c,ys,rfl,yiq key pu h.1 h1,yf8 key pu h.2 h2⟩
end
theorem yla (key:∀cs,RdV E1 w1 (.own m 0) cs→RdV E2 w1 (.own nx 1) cs) (pu:∀x cs,x.pure=true→RdV E1 w1 x cs→RdV E2 w1 x cs):∀{x:V} {v:Value},x.upOk=true→RdT E1 w1 (x.shift m) v→RdT E2 w1 (x.up nx) v
 | .own r g,v,h,hr=>by
  have:=yiq (x:=.own r g) (cs:=[v]) key pu h (by simpa only [V.shift,RdT] using hr);simpa only [V.up,RdT] using this
 | .agg l,v,h,hr=>by
  simp only [V.shift,RdT] at hr;obtain⟨cs,rfl,h1⟩:=hr;have:=yiq (x:=.agg l) (cs:=cs) key pu h (by simpa only [V.shift] using h1);simp only [V.up,RdT] at this⊢;exact⟨cs,rfl,this⟩
 | .tup l,v,h,hr=>by simp [V.upOk] at h
 | .clo f l,v,h,hr=>by simp [V.upOk] at h
 | .sl t s l,v,h,hr=>by simp only [V.shift,V.up,RdT] at hr⊢;exact pu _ _ rfl hr
 | .arr s l,v,h,hr=>by
  rw [V.shift_pure m _ (show(V.arr s l).pure=true from h)] at hr;simp only [RdT] at hr;obtain⟨cs,rfl,h1⟩:=hr;simp only [V.up,RdT];exact⟨cs,rfl,pu (.arr s l) _ h h1⟩
 | .int k n,v,h,hr=>by simp only [V.shift,V.up,RdT] at hr⊢;exact pu _ _ rfl hr
 | .bool b,v,h,hr=>by simp only [V.shift,V.up,RdT] at hr⊢;exact pu _ _ rfl hr
 | .str s,v,h,hr=>by simp only [V.shift,V.up,RdT] at hr⊢;exact pu _ _ rfl hr
 | .nilS,v,h,hr=>by simp only [V.shift,V.up,RdT] at hr⊢;exact pu _ _ rfl hr
 | .ptr r g p o,v,h,hr=>by simp [V.upOk] at h
 | .osl r g s a b,v,h,hr=>by simp [V.upOk] at h
 | .rp x,v,h,hr=>by simp [V.upOk] at h
 | .fn f,v,h,hr=>by simp [V.upOk] at h
 | .lit f,v,h,hr=>by simp [V.upOk] at h
 | .junk,v,h,hr=>by simp [V.upOk] at h
end
theorem Rel.placeUp (R:Rel cx E σ a w) (L:Leads E w E' w') {o:Ob} {v:Value} {x:V} (hx:x.upOk=true) (hv:RdT E' w' (x.shift σ.ob.length) v) (R':Rel cx E' {σ with ob:=σ.ob++[o]} a w') (hl:o.live=true) (hg:o.g=0) (ho:o.scp σ.ob.length=true) {r:Nat} (hr:σ.ob[r]?=some resv):
  ∃E'',Leads E w E'' w'∧RdT E'' w' (x.up r) v∧Rel cx E'' {σ with ob:=σ.ob.set r {o with g:=1}} a w':=by
 obtain⟨E'',u,k1,k2,k3,k4,k5⟩:=R.place L R' hl hg ho hr;refine⟨E'',k3,yla (fun cs hc=>?_) k5 hx hv,k4⟩;simp only [RdV] at hc⊢;obtain⟨v',rfl,m2,m3,m4⟩:=hc;obtain rfl:=(m4 0 u k1).2 rfl;refine⟨v',rfl,m2,(List.getElem?_eq_some_iff.1 k2).1,fun gc u' h=>?_⟩;rw [k2] at h;injection h with h
 injection h with h1 h2
 subst h1 h2;exact⟨Nat.le_refl _,fun _=>rfl⟩
theorem xi6 (R:Rel cx E σ a w) {oo:Oper} {o:Ob} (h:Leads E w E w→xce P cx E a w oo (.own σ.ob.length 0) {σ with ob:=σ.ob++[o]}) (hl:o.live=true) (hg:o.g=0) (ho:o.scp σ.ob.length=true) {r:Nat} (hr:σ.ob[r]?=some resv):
  xce P cx E a w oo (.own r 1) {σ with ob:=σ.ob.set r {o with g:=1}}:=by
 obtain⟨v,w',E',hrun,L,hv,R'⟩:=h (Leads.refl _ _);obtain⟨E'',k3,k5,k4⟩:=R.placeRow L hv R' hl hg ho hr;exact⟨v,w',E'',hrun,k3,k5,k4⟩
theorem xo1 (R:Rel cx E σ a w) {oo:Oper} {o:Ob} (h:Leads E w E w→xce P cx E a w oo (.ptr σ.ob.length 0 [] 0) {σ with ob:=σ.ob++[o]}) (hl:o.live=true) (hg:o.g=0) (ho:o.scp σ.ob.length=true) {r:Nat} (hr:σ.ob[r]?=some resv):
  xce P cx E a w oo (.ptr r 1 [] 0) {σ with ob:=σ.ob.set r {o with g:=1}}:=by
 obtain⟨v,w',E',hrun,L,hv,R'⟩:=h (Leads.refl _ _);obtain⟨E'',u,k1,k2,k3,k4,_⟩:=R.place L R' hl hg ho hr;refine⟨v,w',E'',hrun,k3,?_,k4⟩;simp only [RdT,RdV] at hv⊢;obtain⟨v',m1,m2,m3,m4⟩:=hv;have m5:=(m4 0 u k1).2 rfl;refine⟨v',m1,m2,(List.getElem?_eq_some_iff.1 k2).1,fun gc u' h=>?_⟩;rw [k2] at h;injection h with h
 injection h with h1 h2
 subst h1 h2;exact⟨Nat.le_refl _,fun _=>m5⟩
theorem xmn (R:Rel cx E σ a w) {oo:Oper} {e s:Nat} {l:List V} (h:xce P cx E a w oo (.own σ.ob.length 0) {σ with ob:=σ.ob++[⟨.row e,true,0,.arr s l⟩]}):xce P cx E a w oo (.sl true s l) σ:=by
 obtain⟨v,w',E',hrun,L,hv,R'⟩:=h;obtain⟨e',lv,s',l',xs,q1,q2,q3,q4,q5,q6,q7,q8,q9,q10,q11⟩:=xn1 R' hv (by simp [rowV]);simp at q1;obtain⟨rfl,rfl,rfl,rfl⟩:=q1;have hlt:=q9.lt;have hsl:∃A c,v=.slice A l.length c∧l.length≤c:=by
  rcases q9.2 with ⟨hv,hn⟩|⟨b,cap,cur,hv,_,_,hc,_⟩
  ·exact⟨none,0,by rw [hv,hn],by omega⟩
  ·exact⟨_,_,hv,hc⟩
 obtain⟨A,c,e1,hc⟩:=hsl;have hbk:∀b,blk v=some b→v.ownBlock=some b:=by
  intro b hb;rw [e1] at hb⊢;cases A with
  |none=>simp [blk] at hb
  |some aa=>simpa [blk,Value.ownBlock] using hb
 obtain⟨L2,R2⟩:=R'.freeze (r:=σ.ob.length) (o:=⟨.row e,true,0,.arr s l⟩) (by simp) q4 (fun b hb=>⟨(hlt b (hbk b hb)).1,trivial⟩);have hle:σ.ob.length≤E'.ref.length:=by rw [R'.len];simp
 have hup:(({σ with ob:=σ.ob++[⟨.row e,true,0,.arr s l⟩]}:AS).upd σ.ob.length Ob.freeze).ob.take σ.ob.length=σ.ob:=by
  simp [AS.upd]
 have R3:=R2.cut σ.ob.length (by simp [AS.upd]) (fun i=>by have:=(R.tm i).scp;rwa [R.len] at this) (fun o' ho'=>by
  rw [hup] at ho';obtain⟨j,hj,e⟩:=List.mem_iff_getElem.1 ho';obtain⟨u',_,k⟩:=R.ob j o' (by rw [List.getElem?_eq_getElem hj,e]);have:=k.scp
  rwa [R.len] at this)
 have R4:Rel cx {E' with B:=fun b=>E'.B b∨blk v=some b,ref:=E'.ref.take σ.ob.length} σ a w':=by
  simp only [hup] at R3;exact R3
 have L3:Leads E w {E' with B:=fun b=>E'.B b∨blk v=some b,ref:=E'.ref.take σ.ob.length} w':=⟨fun b hb=>⟨.inl (L.b b hb).1,(L.b b hb).2⟩,L.f,by simp only [List.length_take,R.len];omega,fun q g v hq h=>by
  refine L.ref q g v hq ?_;rw [List.getElem?_take] at h;split at h
  ·exact h
  ·cases h⟩
 refine⟨v,w',_,hrun,L3,?_,R4⟩;simp only [RdT,RdV];refine⟨q5,q6,A,c,by rw [e1],hc,q8,fun h0=>?_⟩;rcases q9.2 with ⟨hv,hn⟩|⟨b,cap,cur,hv,m1,m2,m3,m4,m5,m6⟩
 ·omega
 ·rw [e1] at hv
  injection hv with hv1 hv2 hv3
  subst hv1;refine⟨b,0,xs,rfl,.inr (by rw [e1];rfl),fun _=>(R'.fr b).2 m1,RdL.cutp q5 ((q10.mono L2)),fun j v hv=>?_⟩;rw [←m6,List.getElem?_take] at hv;split at hv
  ·simpa [World.cell?,m2] using hv
  ·cases hv
end
end Rdn.Dp
namespace Rdn.Dp
open Go Go.RowKit Rdn
def xdb:V→List Nat
 | .int _ _=>[]
 | .bool _=>[]
 | .str _=>[]
 | .nilS=>[]
 | .agg _=>[]
 | .arr _ _=>[]
 | .sl _ _ _=>[]
 | .own r _=>[r]
 | .ptr r _ _ _=>[r]
 | .osl r _ _ _ _=>[r]
 | .rp _=>[]
 | .tup _=>[]
 | .clo _ _=>[]
 | .fn _=>[]
 | .lit _=>[]
 | .junk=>[]
def yhj:V→Option Nat
 | .int _ _=>none
 | .bool _=>none
 | .str _=>none
 | .nilS=>none
 | .agg _=>none
 | .arr _ _=>none
 | .sl _ _ _=>none
 | .own r _=>none
 | .ptr r _ _ _=>some r
 | .osl r _ _ _ _=>some r
 | .rp _=>none
 | .tup _=>none
 | .clo _ _=>none
 | .fn _=>none
 | .lit _=>none
 | .junk=>none
def ych:V→Option Nat
 | .int _ _=>none
 | .bool _=>none
 | .str _=>none
 | .nilS=>none
 | .agg _=>none
 | .arr _ _=>none
 | .sl _ _ _=>none
 | .own r _=>some r
 | .ptr r _ _ _=>none
 | .osl r _ _ _ _=>none
 | .rp _=>none
 | .tup _=>none
 | .clo _ _=>none
 | .fn _=>none
 | .lit _=>none
 | .junk=>none
def yk0:V→Bool
 | .int _ _=>false
 | .bool _=>false
 | .str _=>false
 | .nilS=>true
 | .agg _=>false
 | .arr _ _=>false
 | .sl _ _ _=>false
 | .own _ _=>false
 | .ptr _ _ _ _=>false
 | .osl _ _ _ _ _=>false
 | .rp _=>false
 | .tup _=>false
 | .clo _ _=>false
 | .fn _=>false
 | .lit _=>false
 | .junk=>false
def V.pureT:V→Bool
 | .tup l=>V.pures l
 |x=>x.pure
theorem V.shift_pureT (m:Nat) (x:V) (h:V.pureT x=true):x.shift m=x:=by
 unfold V.pureT at h;split at h
 ·simp only [V.shift,V.shifts_pure m _ h]
 ·exact V.shift_pure m x h
def xsP:POp→List X
 | .mov x=>[x]
 | .bin _ _ x y=>[x,y]
 | .un _ x=>[x]
 | .conv _ x=>[x]
 | .nilc x=>[x]
 | .load _ _ x=>[x]
 | .fieldA _ _ x=>[x]
 | .field _ _ _ _ x=>[x]
 | .idxA _ x i=>[x,i]
 | .idxAA _ _ x i=>[x,i]
 | .idx _ _ _ x i=>[x,i]
 | .ext x _=>[x]
 | .len x=>[x]
 | .lenA _=>[]
 | .mx x y=>[x,y]
 | .mn x y=>[x,y]
 | .pick c x y=>[c,x,y]
 | .b2s x=>[x]
 | .eqs _ _ x y=>[x,y]
 | .lenS x=>[x]
 | .idxS x i=>[x,i]
 | .mkf _ xs=>xs
 | .mkb _ x=>[x]
 | .bad=>[]
def fpP (σ:AS):POp→List Nat
 | .load _ _ x=>xdb (x.ev σ)
 | .fieldA _ _ x=>xdb (x.ev σ)
 | .idxA _ x _=>xdb (x.ev σ)
 | .idxAA _ _ x _=>xdb (x.ev σ)
 | .nilc x=>xdb (x.ev σ)
 | .len x=>xdb (x.ev σ)
 | .mov _=>[]
 | .bin _ _ _ _=>[]
 | .un _ _=>[]
 | .conv _ _=>[]
 | .field _ _ _ _ _=>[]
 | .idx _ _ _ _ _=>[]
 | .ext _ _=>[]
 | .lenA _=>[]
 | .mx _ _=>[]
 | .mn _ _=>[]
 | .pick _ _ _=>[]
 | .b2s _=>[]
 | .eqs _ _ _ _=>[]
 | .lenS _=>[]
 | .idxS _ _=>[]
 | .mkf _ _=>[]
 | .mkb _ _=>[]
 | .bad=>[]
def oX:Option X→List X
 |none=>[]
 |some x=>[x]
def xsM:MOp→List X
 | .box _ x=>[x]
 | .alloc _ _=>[]
 | .build _ _ ps=>ps.map (·.2)
 | .buildS _ _ _ _ ps=>ps.map (·.2)
 | .store _ x y=>[x,y]
 | .sl _ x lo hi mx=>x::(oX lo++(oX hi++oX mx))
 | .slA _ _ x lo hi mx=>x::(oX lo++(oX hi++oX mx))
 | .mkS _ _ _ _ x y=>[x,y]
 | .app _ _ _ x y=>[x,y]
 | .bytes x=>[x]
 | .copy _ _ x y=>[x,y]
 | .appz _ _ _ _ x y=>[x,y]
 | .mkM _=>[]
 | .ins _ m k x=>[m,k,x]
 | .lk _ x k=>[x,k]
def tgtM (σ:AS):MOp→Option Nat
 | .store _ x _=>yhj (x.ev σ)
 | .sl _ x _ _ _=>ych (x.ev σ)
 | .slA _ _ x _ _ _=>yhj (x.ev σ)
 | .app _ _ _ x _=>ych (x.ev σ)
 | .box _ _=>none
 | .alloc _ _=>none
 | .build _ _ _=>none
 | .buildS _ _ _ _ _=>none
 | .mkS _ _ _ _ _ _=>none
 | .bytes _=>none
 | .copy _ _ _ _=>none
 | .appz _ _ _ _ _ _=>none
 | .mkM _=>none
 | .ins _ _ _ _=>none
 | .lk _ _ _=>none
def fpM (σ:AS):MOp→List Nat
 | .store _ x _=>xdb (x.ev σ)
 | .sl _ x _ _ _=>xdb (x.ev σ)
 | .slA _ _ x _ _ _=>xdb (x.ev σ)
 | .app _ _ _ x y=>xdb (x.ev σ)++xdb (y.ev σ)
 | .box _ _=>[]
 | .alloc _ _=>[]
 | .build _ _ _=>[]
 | .buildS _ _ _ _ _=>[]
 | .mkS _ _ _ _ _ _=>[]
 | .bytes _=>[]
 | .copy _ _ _ _=>[]
 | .appz _ _ _ _ _ _=>[]
 | .mkM _=>[]
 | .ins _ _ _ _=>[]
 | .lk _ _ _=>[]
def isW (σ:AS):MOp→Bool
 | .store _ _ _=>true
 | .sl _ _ _ _ _=>true
 | .slA _ _ _ _ _ _=>true
 | .app _ _ _ x _=>!yk0 (x.ev σ)
 | .box _ _=>false
 | .alloc _ _=>false
 | .build _ _ _=>false
 | .buildS _ _ _ _ _=>false
 | .mkS _ _ _ _ _ _=>false
 | .bytes _=>false
 | .copy _ _ _ _=>false
 | .appz _ _ _ _ _ _=>false
 | .mkM _=>false
 | .ins _ _ _ _=>false
 | .lk _ _ _=>false
def aopF (σ:AS):MOp→V×Prop
 | .build none z ps=>(.agg (xd6 z (evs σ ps)),fits z (evs σ ps))
 | .build (some s) z ps=>(.arr s (xd6 z (evs σ ps)),fits z (evs σ ps))
 | .buildS e s z m ps=>(.sl true s (xd6 (List.replicate m z) (evs σ ps)),fits (List.replicate m z) (evs σ ps)∧V.pures (xd6 (List.replicate m z) (evs σ ps))=true)
 | .bytes x=>((xin σ (x.ev σ)).1,(xin σ (x.ev σ)).2.2)
 | .box T x=>(.rp (x.ev σ),(x.ev σ).pure=true∧((x.ev σ).size≠0∨(x.ev σ).isAgg=true))
 | .mkS e s b z x y=>match x.ev σ,y.ev σ with
  | .int _ l,.int _ c=>(.sl true s (List.replicate l.toNat z),0≤l∧l≤c∧(b:Int)*c≤140737488355328∧c≤140737488355328)
  |_,_=>bad
 | .app e s b x y=>match x.ev σ with
  | .nilS=>(.sl true s (srcV σ σ.ob.length (y.ev σ)).1,(srcV σ σ.ob.length (y.ev σ)).2.2∧((srcV σ σ.ob.length (y.ev σ)).1=[]∨(srcV σ σ.ob.length (y.ev σ)).2.1=s)∧(srcV σ σ.ob.length (y.ev σ)).1.length*b≤140737488355328∧(srcV σ σ.ob.length (y.ev σ)).1.length≤140737488355328)
  |_=>bad
 |_=>bad
def aopC (σ:AS) (nx:Nat):MOp→V×Ob×Prop
 | .alloc T z=>(.ptr nx 1 [] 0,⟨.box false T,true,1,z⟩,True)
 | .box T x=>(.ptr nx 1 [] 0,⟨.box false T,true,1,x.ev σ⟩,(x.ev σ).size≠0∨(x.ev σ).isAgg=true)
 | .buildS e s z m ps=>(.own nx 1,⟨kOf (V.pures (xd6 (List.replicate m z) (evs σ ps))) e,true,1,.arr s (xd6 (List.replicate m z) (evs σ ps))⟩,fits (List.replicate m z) (evs σ ps))
 | .mkS e s b z x y=>match x.ev σ,y.ev σ with
  | .int _ l,.int _ c=>(.own nx 1,⟨.row e,true,1,.arr s (List.replicate l.toNat z)⟩,0≤l∧l≤c∧(b:Int)*c≤140737488355328∧c≤140737488355328)
  |_,_=>(.junk,resv,False)
 | .app e s b x y=>match x.ev σ with
  | .nilS=>(.own nx 1,⟨.row e,true,1,.arr s (srcV σ σ.ob.length (y.ev σ)).1⟩,(srcV σ σ.ob.length (y.ev σ)).2.2∧((srcV σ σ.ob.length (y.ev σ)).1=[]∨(srcV σ σ.ob.length (y.ev σ)).2.1=s)∧(srcV σ σ.ob.length (y.ev σ)).1.length*b≤140737488355328∧(srcV σ σ.ob.length (y.ev σ)).1.length≤140737488355328)
  |_=>(.junk,resv,False)
 |_=>(.junk,resv,False)
section
variable {σ σ':AS}
theorem xkg {r g:Nat} (h:σ.ob[r]?=σ'.ob[r]?):obV σ r g=obV σ' r g:=by simp only [obV,h]
theorem xpg {r g:Nat} (h:σ.ob[r]?=σ'.ob[r]?):rowV σ r g=rowV σ' r g:=by simp only [rowV,h]
theorem xlw {σ σ':AS} {r g:Nat} (h:σ.ob[r]?=σ'.ob[r]?):rowW σ r g=rowW σ' r g:=by simp only [rowW,h]
theorem ybd {m:POp} (hx:∀x∈xsP m,x.ev σ=x.ev σ') (ho:∀r∈fpP σ m,σ.ob[r]?=σ'.ob[r]?):aopP σ m=aopP σ' m:=by
 cases m<;>simp only [xsP,List.mem_cons,List.not_mem_nil,or_false,forall_eq_or_imp,forall_eq,fpP] at hx ho<;>simp only [aopP,hx]
 case mkf f xs=>rw [List.map_congr_left hx]
 case load ag n x=>
  rw [hx] at ho;cases h:x.ev σ'<;>simp only [xw1]
  rw [xkg (ho _ (by simp [xdb,h]))]
 case fieldA fo j x=>
  rw [hx] at ho;cases h:x.ev σ'<;>simp only [xk8]
  case rp y=>cases y<;>rfl
  rw [xkg (ho _ (by simp [xdb,h]))]
 case nilc x=>
  rw [hx] at ho;cases h:x.ev σ'<;>simp only [xw4]
  rw [xkg (ho _ (by simp [xdb,h]))]
 case len x=>
  rw [hx] at ho;cases h:x.ev σ'<;>simp only [lenV]
  rw [xlw (ho _ (by simp [xdb,h]))]
 case idxA s x i=>
  rw [hx.1] at ho;refine congrArg (fun f=>xhn f (i.ev σ')) (funext fun n=>?_);cases h:x.ev σ'<;>simp only [xvz]
  rw [xlw (ho _ (by simp [xdb,h]))]
 case idxAA m s x i=>
  rw [hx.1] at ho;refine congrArg (fun f=>xhn f (i.ev σ')) (funext fun n=>?_);cases h:x.ev σ'<;>simp only [xny]
  case rp y=>cases y<;>rfl
  rw [xkg (ho _ (by simp [xdb,h]))]
theorem xsj {ps:List (Nat×X)} (hx:∀x∈ps.map (·.2),X.ev σ x=X.ev σ' x):evs σ ps=evs σ' ps:=by
 unfold evs;refine List.map_congr_left fun p hp=>?_;rw [hx p.2 (List.mem_map.2 ⟨p,hp,rfl⟩)]
theorem ydk {r0 r1:Nat} (h0:r0=r1) {y:V} (ho:∀r∈xdb y,σ.ob[r]?=σ'.ob[r]?):srcW σ r0 y=srcW σ' r1 y:=by
 subst h0;cases y<;>simp only [srcW]
 rw [xlw (ho _ (by simp [xdb]))]
theorem xz9 {r:Nat} {y:V} (hr:σ.ob[r]?=σ'.ob[r]?) (ho:∀r∈xdb y,σ.ob[r]?=σ'.ob[r]?):xt1 σ r y=xt1 σ' r y:=by
 unfold xt1;rw [hr];cases y<;>try rfl
 rename_i q g';have:=ho q (by simp [xdb]);simp only [this]
theorem xvd {r0 r1:Nat} (h0:r0=r1) {y:V} (ho:∀r∈xdb y,σ.ob[r]?=σ'.ob[r]?):srcV σ r0 y=srcV σ' r1 y:=by
 subst h0;cases y<;>simp only [srcV]
 rw [xpg (ho _ (by simp [xdb]))]
theorem xe3 {d:Int} {x:Option X} (hx:∀y∈oX x,y.ev σ=y.ev σ'):xa9 d σ x=xa9 d σ' x:=by
 cases x with
 |none=>rfl
 |some y=>simp only [xa9,hx y (by simp [oX])]
theorem ybc {m:MOp} (hx:∀x∈xsM m,x.ev σ=x.ev σ') (ho:∀r∈fpM σ m,σ.ob[r]?=σ'.ob[r]?) (hl:σ.ob.length=σ'.ob.length):aopF σ m=aopF σ' m:=by
 cases m with
 |box T x=>simp only [aopF,hx x (by simp [xsM])]
 |build ar z ps=>cases ar<;>simp only [aopF,xsj hx]
 |buildS e s z m ps=>simp only [aopF,xsj hx]
 |bytes x=>
  simp only [aopF,hx x (by simp [xsM])];cases x.ev σ'<;>simp only [xin,bad3]
 |mkS e s b z x y=>simp only [aopF,hx x (by simp [xsM]),hx y (by simp [xsM])]
 |app e s b x y=>
  have h1:=hx x (by simp [xsM]);have h2:=hx y (by simp [xsM]);simp only [fpM,h2] at ho;simp only [aopF,h1,h2];rw [xvd hl (y:=y.ev σ') (fun r hr=>ho r (by simp [hr]))]
 |_=>rfl
theorem ybb {m:MOp} {nx:Nat} (hx:∀x∈xsM m,x.ev σ=x.ev σ') (ho:∀r∈fpM σ m,σ.ob[r]?=σ'.ob[r]?) (hl:σ.ob.length=σ'.ob.length):aopC σ nx m=aopC σ' nx m:=by
 cases m with
 |box T x=>simp only [aopC,hx x (by simp [xsM])]
 |buildS e s z m ps=>simp only [aopC,xsj hx]
 |mkS e s b z x y=>simp only [aopC,hx x (by simp [xsM]),hx y (by simp [xsM])]
 |app e s b x y=>
  have h1:=hx x (by simp [xsM]);have h2:=hx y (by simp [xsM]);simp only [fpM,h2] at ho;simp only [aopC,h1,h2];rw [xvd hl (y:=y.ev σ') (fun r hr=>ho r (by simp [hr]))]
 |_=>rfl
mutual
theorem yhw (ids:List Nat):∀{x:V},(∀r∈x.ids,σ.ob[r]?=σ'.ob[r]?)→x.res σ ids=x.res σ' ids∧x.resOk σ=x.resOk σ'
 | .own r g,h=>by
  have:=xpg (g:=g) (h r (by simp [V.ids]));exact⟨by simp only [V.res,this],by simp only [V.resOk,this]⟩
 | .agg l,h=>by have:=xfy ids (l:=l) (by simpa only [V.ids] using h);exact⟨by simp only [V.res,this.1],by simp only [V.resOk,this.2]⟩
 | .tup l,h=>by have:=xfy ids (l:=l) (by simpa only [V.ids] using h);exact⟨by simp only [V.res,this.1],by simp only [V.resOk,this.2]⟩
 | .clo f l,h=>by have:=xfy ids (l:=l) (by simpa only [V.ids] using h);exact⟨by simp only [V.res,this.1],by simp only [V.resOk,this.2]⟩
 | .int k n,_=>⟨rfl,rfl⟩
 | .bool b,_=>⟨rfl,rfl⟩
 | .str s,_=>⟨rfl,rfl⟩
 | .nilS,_=>⟨rfl,rfl⟩
 | .arr s l,_=>⟨rfl,rfl⟩
 | .sl t s l,_=>⟨rfl,rfl⟩
 | .ptr r g p o,_=>⟨rfl,rfl⟩
 | .osl r g s a b,_=>⟨rfl,rfl⟩
 | .rp x,_=>⟨rfl,rfl⟩
 | .fn f,_=>⟨rfl,rfl⟩
 | .lit f,_=>⟨rfl,rfl⟩
 | .junk,_=>⟨rfl,rfl⟩
theorem xfy (ids:List Nat):∀{l:List V},(∀r∈V.idss l,σ.ob[r]?=σ'.ob[r]?)→V.ress σ ids l=V.ress σ' ids l∧V.ressOk σ l=V.ressOk σ' l
 |[],_=>⟨rfl,rfl⟩
 |x::l,h=>by
  simp only [V.idss,List.mem_append] at h;have h1:=yhw ids (x:=x) (fun r hr=>h r (.inl hr));have h2:=xfy ids (l:=l) (fun r hr=>h r (.inr hr));exact⟨by simp only [V.ress,h1.1,h2.1],by simp only [V.ressOk,h1.2,h2.2]⟩
end
theorem xmo {r:Nat} (h:xio σ r):∃o,σ.ob[r]?=some o:=by
 unfold xio at h;cases ho:σ.ob[r]? with
 |none=>rw [ho] at h;exact h.elim
 |some o=>exact⟨o,rfl⟩
theorem xps {r:Nat} {f f':Ob→Ob} {o:Ob} (h1:σ.ob[r]?=some o) (h2:σ'.ob[r]?=some o) (hf:f o=f' o):r<σ.ob.length∧(σ.upd r f).ob=σ.ob.set r (f o)∧(σ'.upd r f').ob=σ'.ob.set r (f o):=
 ⟨(List.getElem?_eq_some_iff.1 h1).1,by simp [AS.upd,h1],by simp [AS.upd,h2,hf]⟩
theorem xob {m:MOp} (hx:∀x∈xsM m,x.ev σ=x.ev σ') (ho:∀r∈fpM σ m,σ.ob[r]?=σ'.ob[r]?) (hw:isW σ m=true) (hc:(aopM σ m).2.2):
  (aopM σ' m).1=(aopM σ m).1∧(aopM σ' m).2.2∧((tgtM σ m=none∧(aopM σ m).2.1.ob=σ.ob∧(aopM σ' m).2.1.ob=σ'.ob)∨∃r o',tgtM σ m=some r∧r∈fpM σ m∧r<σ.ob.length∧(aopM σ m).2.1.ob=σ.ob.set r o'∧(aopM σ' m).2.1.ob=σ'.ob.set r o'):=by
 cases m with
 |store n x y=>
  have h1:=hx x (by simp [xsM]);have h2:=hx y (by simp [xsM]);simp only [aopM,tgtM,fpM,h1,h2] at ho hc⊢;cases h:x.ev σ'<;>rw [h] at ho hc<;>simp only [xne,bad3] at hc⊢
  rename_i r g p o;have hr:=ho r (by simp [xdb]);obtain⟨q,hq⟩:=xmo hc.2.1;obtain⟨k1,k2,k3⟩:=xps (f:=fun ob=>{ob with v:=setp ob.v p (y.ev σ')}) (f':=fun ob=>{ob with v:=setp ob.v p (y.ev σ')}) hq (by rw [←hr];exact hq) rfl;refine⟨trivial,?_,.inr ⟨r,_,rfl,by simp [xdb],k1,k2,k3⟩⟩;simp only [xkg (g:=g) hr,xio,hr] at hc;simpa only [xio] using hc
 |sl s x lo hi mx=>
  have h1:=hx x (by simp [xsM]);have b1:∀d,xa9 d σ lo=xa9 d σ' lo:=fun d=>xe3 fun z hz=>hx z (by simp [xsM,hz]);have b2:∀d,xa9 d σ hi=xa9 d σ' hi:=fun d=>xe3 fun z hz=>hx z (by simp [xsM,hz]);have b3:∀d,xa9 d σ mx=xa9 d σ' mx:=fun d=>xe3 fun z hz=>hx z (by simp [xsM,hz]);simp only [aopM,tgtM,fpM,h1] at ho hc⊢;cases h:x.ev σ'<;>rw [h] at ho hc<;>simp only [slV,bad3,b1,b2,b3] at hc⊢
  ·exact⟨trivial,hc,.inl ⟨by simp [ych],trivial,trivial⟩⟩
  ·rename_i r g
   have hr:=ho r (by simp [xdb]);obtain⟨e,lv,s',l,hq,_,_⟩:=xjr hc.1;obtain⟨k1,k2,k3⟩:=xps (f:=Ob.freeze) (f':=Ob.freeze) hq (by rw [←hr];exact hq) rfl;rw [xpg hr] at hc⊢;exact⟨rfl,hc,.inr ⟨r,_,rfl,by simp [xdb],k1,k2,k3⟩⟩
 |slA m s x lo hi mx=>
  have h1:=hx x (by simp [xsM]);have b1:∀d,xa9 d σ lo=xa9 d σ' lo:=fun d=>xe3 fun z hz=>hx z (by simp [xsM,hz]);have b2:∀d,xa9 d σ hi=xa9 d σ' hi:=fun d=>xe3 fun z hz=>hx z (by simp [xsM,hz]);simp only [aopM,tgtM,fpM,h1] at ho hc⊢;unfold slAV at hc⊢;cases h:x.ev σ'<;>rw [h] at ho hc<;>try (simp only [bad3] at hc;done)
  rename_i r g p o;have hr:=ho r (by simp [xdb]);split at hc
  case h_2=>simp only [bad3] at hc
  rename_i r' g' heq;injection heq with e1 e2 e3 e4
  subst e1 e2 e3 e4;have eo:=xkg (g:=g) hr;simp only [eo] at hc⊢;split at hc
  case h_2=>simp only [bad3] at hc
  rename_i s' l heq;simp only [heq,b1,b2] at hc⊢;obtain⟨q,hq,_,_⟩:=xup (σ:=σ') (r:=r) (g:=g) hc.1;obtain⟨k1,k2,k3⟩:=xps (f:=Ob.freeze) (f':=Ob.freeze) (σ:=σ) (σ':=σ') (by rw [hr];exact hq) hq rfl;simp only [hr] at hc;exact⟨trivial,hc,.inr ⟨r,_,rfl,by simp [xdb],k1,k2,k3⟩⟩
 |app e s b x y=>
  have h1:=hx x (by simp [xsM]);have h2:=hx y (by simp [xsM]);simp only [isW,h1,yk0] at hw;simp only [aopM,tgtM,fpM,h1,h2] at ho hc⊢;cases h:x.ev σ'<;>rw [h] at ho hc hw<;>simp only [appV,bad3] at hc⊢<;>try (simp at hw;done)
  rename_i r g;have hr:=ho r (by simp [xdb]);have hs:srcW σ r (y.ev σ')=srcW σ' r (y.ev σ'):=ydk rfl (fun q hq=>ho q (by simp [hq]));have hrow:=xlw (g:=g) hr;have hok:=xz9 (y:=y.ev σ') hr (fun q hq=>ho q (by simp [hq]));obtain⟨q,hq⟩:=xmo hc.2.1;simp only [hs,hrow,hok,xio,eAt,hr] at hc⊢;obtain⟨k1,k2,k3⟩:=xps (σ:=σ) (σ':=σ') (f:=fun o=>(⟨o.k,o.live,g+1,.arr s ((rowW σ' r g).2.1++(srcW σ' r (y.ev σ')).1)⟩:Ob)) (f':=fun o=>⟨o.k,o.live,g+1,.arr s ((rowW σ' r g).2.1++(srcW σ' r (y.ev σ')).1)⟩) hq (by rw [←hr];exact hq) rfl;exact⟨trivial,hc,.inr ⟨r,_,rfl,by simp [xdb],k1,k2,k3⟩⟩
 |_=>simp [isW] at hw
end
section
variable {P:Program} {cx:Cx} {E:Env} {σ:AS} {a:Act} {w:World}
theorem xks {op:Op} {e s m:Nat} {z:V} {ps:List (Nat×X)} (hc:xg0 P op=some (.buildS e s z m ps)):∃T qs i,op=.buildSlice T m qs∧P.underlying T=some (.slice e)∧P.info? e=some i∧xdy P e z=true∧0<i.size∧m*i.size≤2 ^ 24∧z.size=i.size∧xfo qs.toList=some ps∧s=i.size:=by
 unfold xg0 at hc;split at hc
 case h_4=>
  split at hc
  ·rename_i h1
   split at hc
   ·rename_i h2 h3
    split at hc
    ·rename_i h4
     simp only [Bool.and_eq_true,decide_eq_true_eq] at h4;simp only [Option.map_eq_some_iff] at hc;obtain⟨x,hx,e⟩:=hc;injection e with e1 e2 e3 e4 e5
     subst e1 e2 e3 e4 e5;exact⟨_,_,_,rfl,h1,h2,h4.1,h4.2.1,h4.2.2.1,h4.2.2.2,hx,rfl⟩
    ·cases hc
   ·cases hc
  ·cases hc
 all_goals (repeat' split at hc)<;>first|(cases hc;done)|(simp [Option.bind_eq_some_iff] at hc;done)
theorem xq7 {op:Op} {T:TypeId} {x:X} (hc:xg0 P op=some (.box T x)):∃y,op=.box T y∧xb2 y=some x:=by
 unfold xg0 at hc;split at hc
 case h_1=>
  simp only [Option.map_eq_some_iff] at hc;obtain⟨y,hx,e⟩:=hc;injection e with e1 e2
  subst e1 e2;exact⟨_,rfl,hx⟩
 all_goals (repeat' split at hc)<;>first|(cases hc;done)|(simp [Option.bind_eq_some_iff] at hc;done)
theorem xs9 {op:Op} {T:TypeId} {z:V} (hc:xg0 P op=some (.alloc T z)):xdy P T z=true:=by
 unfold xg0 at hc;split at hc
 case h_2=>
  split at hc
  ·split at hc
   ·cases hc;assumption
   ·cases hc
  ·cases hc
 all_goals (repeat' split at hc)<;>first|(cases hc;done)|(simp [Option.bind_eq_some_iff] at hc;done)
theorem xze {o:Oper} {m:MOp} (hc:xg0 P o.op=some m) (R:Rel cx E σ a w) (h:(aopF σ m).2):xce P cx E a w o (aopF σ m).1 σ:=by
 have hw:cx.W.heap.size≤w.heap.size:=R.keep.size;unfold aopF at h⊢;split at h
 ·exact xck hc R h
 ·exact xck hc R h
 ·rename_i e s z m ps
  exact xmn R (xck hc R h)
 ·rename_i x
  have:=xck hc R h;simp only [aopM] at this h⊢;cases e1:x.ev σ<;>simp only [e1,xin,bad3] at h this⊢<;>exact this
 ·rename_i T x
  obtain⟨y,e1,hx⟩:=xq7 hc;obtain⟨L,R'⟩:=R.allocB (a.eval y).cells T;refine⟨.pointer (some ⟨w.heap.size,0,none⟩),_,_,.inl (by simp only [execOp,e1,Instr.box,newVar,newRow,Sem.run_bind,run_newObj,Result.andThen_ok,Sem.run_pure];rfl),L,?_,R'⟩;refine xz2 h.1 (.inr rfl) (((xac R hx).toV h.2).mono L) (fun j v hv=>?_);rw [Nat.zero_add];unfold World.cell?;rw [xu8];simpa using hv
 ·rename_i e s b z x y
  have:=xck hc R;simp only [aopM] at this;cases e1:x.ev σ<;>simp only [e1,bad] at h this⊢
  cases e2:y.ev σ<;>simp only [e2,bad] at h this⊢
  exact xmn R (this h)
 ·rename_i e s b x y
  have:=xck hc R;simp only [aopM,appV] at this;cases e1:x.ev σ<;>simp only [e1,bad] at h this⊢
  exact xmn R (this h)
 ·exact h.elim
theorem xzd {o:Oper} {m:MOp} {nx:Nat} (hc:xg0 P o.op=some m) (R:Rel cx E σ a w) (hn:σ.ob[nx]?=some resv) (h:(aopC σ nx m).2.2):xce P cx E a w o (aopC σ nx m).1 {σ with ob:=σ.ob.set nx (aopC σ nx m).2.1}:=by
 unfold aopC at h⊢;split at h
 ·rename_i T z
  refine xo1 R (o:=⟨.box false T,true,0,z⟩) (fun _=>xck hc R (by simp [aopM])) rfl rfl ?_ hn;simp only [Ob.scp];exact V.scp_pure _ _ (xl0 (xs9 hc))
 ·rename_i T x
  obtain⟨y,e1,hx⟩:=xq7 hc;refine xo1 R (o:=⟨.box false T,true,0,x.ev σ⟩) (fun _=>xck hc R h) rfl rfl ?_ hn;simp only [Ob.scp];have:=(xac R hx).scp
  rwa [R.len] at this
 ·rename_i e s z m ps
  obtain⟨T,qs,i,b1,b2,b3,b4,b5,b6,b7,b8,rfl⟩:=xks hc;cases hp:V.pures (xd6 (List.replicate m z) (evs σ ps)) with
  |true=>exact xi6 R (o:=⟨.row e,true,0,.arr i.size (xd6 (List.replicate m z) (evs σ ps))⟩) (fun _=>xkr R b1 b2 b3 b4 b5 b6 b7 b8 h hp) rfl rfl rfl hn
  |false=>
   obtain⟨k1,cs,k2⟩:=xkq R b1 b2 b3 b4 b5 b6 b7 b8 h;refine xi6 R (o:=⟨.rows false e,true,0,.arr i.size (xd6 (List.replicate m z) (evs σ ps))⟩) (fun _=>k1) rfl rfl ?_ hn;simp only [Ob.scp,V.scp];have:=k2.scp
   rwa [R.len] at this
 ·rename_i e s b z x y
  have:=xck hc R;simp only [aopM] at this;cases e1:x.ev σ<;>simp only [e1] at h this⊢
  cases e2:y.ev σ<;>simp only [e2] at h this⊢
  exact xi6 R (o:=⟨.row e,true,0,_⟩) (fun _=>this h) rfl rfl rfl hn
 ·rename_i e s b x y
  have:=xck hc R;simp only [aopM,appV] at this;cases e1:x.ev σ<;>simp only [e1] at h this⊢
  exact xi6 R (o:=⟨.row e,true,0,_⟩) (fun _=>this h) rfl rfl rfl hn
 ·exact h.elim
theorem xjp {o:Oper} {x:V} {σ':AS} {S:Value→World→Prop} (h:xce P cx E a w o x σ') (hS:∀v w' E',Leads E w E' w'→RdT E' w' x v→Rel cx E' σ' a w'→S v w'):xf6 P o a w S:=by
 obtain⟨v,w',E',hr,L,hx,R⟩:=h;unfold xf6;rcases hr with hr|⟨hr,rfl⟩
 ·rw [hr];exact hS v w' E' L hx R
 ·rw [hr];exact hS _ w' E' L hx R
theorem yhv {o:Oper} {m:POp} (hc:xnk P o.op=some m) (R:Rel cx E σ a w) (h:(aopP σ m).2) {S:Value→World→Prop} (hS:∀v,RdT E w (aopP σ m).1 v→S v w):xf6 P o a w S:=by
 obtain⟨v,hr,hx⟩:=xr7 hc R h;unfold xf6;rw [hr];exact hS v hx
theorem yfs {op:Op} {m:POp} (h:xg8 P op=some (.p m)) (hb:m≠.bad):xnk P op=some m:=by
 unfold xg8 at h;split at h
 ·rename_i e;cases h;exact e
 ·split at h
  ·cases h
  ·split at h
   ·split at h
    ·split at h
     ·simp at h
     ·cases h;exact absurd rfl hb
    ·cases h;exact absurd rfl hb
   ·simp at h
   ·cases h;exact absurd rfl hb
theorem xk3 {op:Op} {m:MOp} (h:xg8 P op=some (.m m)):xg0 P op=some m:=by
 unfold xg8 at h;split at h
 ·cases h
 ·split at h
  ·rename_i e;cases h;exact e
  ·split at h
   ·split at h
    ·split at h
     ·simp at h
     ·cases h
    ·cases h
   ·simp at h
   ·cases h
theorem xbt {o:Oper} {f:FuncId} {xs:List X} (h:xg8 P o.op=some (.call f xs)) (a:Act):∃as:List Operand,xev as=some xs∧∀w,(execOp a.eval o).run P w=.ok (.enter f (as.map a.eval).toArray) w:=by
 unfold xg8 at h;split at h
 ·cases h
 split at h
 ·cases h
 split at h
 ·rename_i f' as ats e1
  split at h
  ·rename_i fn hfn
   split at h
   ·rename_i hcnd
    simp only [Bool.and_eq_true] at hcnd;simp only [Option.map_eq_some_iff,RK.call.injEq] at h;obtain⟨ys',hys,rfl,rfl⟩:=h;refine⟨as.toList,hys,fun w=>?_⟩;have e2:(as.toList.map a.eval).toArray=as.map a.eval:=by rw [←Array.toList_map,Array.toArray_toList]
    rw [e2];simp only [execOp,e1,resolve,Act.eval,Deferred.ofValue,Sem.run_bind,Sem.run_pure,Result.andThen_ok,invoke];rw [xjs hfn hcnd.1 hcnd.2];simp
   ·cases h
  ·cases h
 ·simp at h
 ·cases h
end
end Rdn.Dp
namespace Rdn.Dp
open Go Go.RowKit Rdn
def ResOkM (w w':World) (S:Nat→Prop) (b0:Nat) (T:TypeId) (x:V) (obs:List Ob) (d:V) (v:Value):Prop:=
 ∃E',(∀b,E'.B b→S b∨w.heap.size≤b)∧¬E'.B b0∧(∀o∈obs,o.live=true∧o.g=0∧∃e,o.k=.row e)∧Rel ⟨w,(· =b0),S⟩ E' ⟨1,[(0,x)],obs⟩ ⟨#[v],[]⟩ w'∧d.pure=true∧∃cs:List Value,w'.heap[b0]?=some (.cells cs.toArray T (0,0))∧RdV E' w' d cs
def FncM (P:Program) (f:FuncId) (T:TypeId) (d:V) (xs:List V) (R:V→List Ob→V→Prop):Prop:=
 ∀(w:World) (S:Nat→Prop) (b0:Nat),(∀b,S b→b<w.heap.size∧b≠b0)→∀cs:List Value,w.heap[b0]?=some (.cells cs.toArray T (0,0))→RdV (argS S) w d cs→∀vs,RdTs (argS S) w xs vs→
  Calls P f (.pointer (some ⟨b0,0,none⟩)::vs).toArray w fun e w'=>∃x obs d' v,R x obs d'∧e=.returned v∧ResOkM w w' S b0 T x obs d' v
section
variable {cx:Cx} {E:Env} {σ:AS} {a:Act} {w w':World} {P:Program}
theorem OkO.wrRow {o:Ob} {u:Value} (h:OkO cx E w o u) {e:TypeId} (hk:o.k=.row e) {b:Nat} (hb:blk u=some b):cx.W.heap.size≤b:=by
 unfold OkO at h;rw [hk] at h;obtain⟨s,l,xs,h1,h2,h3,h4,h5,h6,h7,h8⟩:=h;rcases h6.2 with ⟨rfl,_⟩|⟨g,cap,cur,rfl,k1,k2,k3⟩
 ·simp [blk] at hb
 ·simp only [blk,Option.some.injEq] at hb
  subst hb;exact k1
theorem Rel.backM (R:Rel cx E σ a w) {r:Nat} {o:Ob} {q:Bool} {T:TypeId} (hr:σ.ob[r]?=some o) (hk:o.k=.box q T) (hl:o.live=true) {u0:Value} (hu:E.ref[r]?=some (o.g,u0)) {b0:Nat} (hb0:blk u0=some b0) {x d:V} {obs:List Ob} {v:Value} (h:ResOkM w w' E.B b0 T x obs d v):
  ∃E',Leads E w E' w'∧RdT E' w' (x.shift σ.ob.length) v∧Rel cx E' {σ with ob:=σ.ob.set r {o with v:=d}++obs.map (Ob.shift σ.ob.length)} a w':=by
 obtain⟨E1,hE1,hnb,hobs,R1,hdp,cs',hh',hd'⟩:=h;have hlen1:E1.ref.length=obs.length:=R1.len;obtain⟨u1,p1,p2⟩:=R.ob r o hr;rw [hu] at p1;injection p1 with p1
 injection p1 with _ p1
 subst p1;have hEb:¬E.B b0:=p2.live_B hl hb0;have hbk:∀b,b<w.heap.size→b≠b0→w'.heap[b]?=w.heap[b]?:=fun b hb hne=>R1.keep.block b hb hne;have hBk:∀b,E.B b→w'.heap[b]?=w.heap[b]?:=fun b hb=>hbk b (R.lt b hb) (fun e=>hEb (e▸hb));have L:Leads E w ⟨fun b=>E.B b∨E1.B b,E.F,E.ref++E1.ref⟩ w':=by
  refine⟨fun b hb=>⟨.inl hb,hBk b hb⟩,fun _ h=>h,by simp,fun r g u hr h=>⟨g,u,?_,Nat.le_refl _,fun _=>rfl⟩⟩;have h:(E.ref++E1.ref)[r]?=some (g,u):=h;rw [List.getElem?_append_left hr] at h;exact h
 have hwW:cx.W.heap.size≤w.heap.size:=R.keep.size;have hF:∀b,E1.F b→E.F b:=fun b hb=>by
  have:=(R1.fr b).1 hb;exact(R.fr b).2 (Nat.le_trans hwW this)
 have hrr:∀r,r<E1.ref.length→(E.ref++E1.ref)[σ.ob.length+r]?=E1.ref[r]?:=fun r hr=>by
  rw [List.getElem?_append_right (by rw [R.len];omega),R.len,Nat.add_sub_cancel_left]
 have rl:r<σ.ob.length:=(List.getElem?_eq_some_iff.1 hr).1;have oldo:∀(r':Nat) (o':Ob),r'<σ.ob.length→r≠r'→(σ.ob.set r {o with v:=d}++obs.map (Ob.shift σ.ob.length))[r']?=some o'→σ.ob[r']?=some o':=by
  intro r' o' hlt hne h;rw [List.getElem?_append_left (by simpa using hlt),List.getElem?_set_ne hne] at h;exact h
 have same:∀(o':Ob),(σ.ob.set r {o with v:=d}++obs.map (Ob.shift σ.ob.length))[r]?=some o'→o'={o with v:=d}:=by
  intro o' h;rw [List.getElem?_append_left (by simpa using rl),List.getElem?_set_self rl] at h;exact(Option.some.inj h).symm
 have newo:∀(r':Nat) (o':Ob),¬r'<σ.ob.length→(σ.ob.set r {o with v:=d}++obs.map (Ob.shift σ.ob.length))[r']?=some o'→∃o1,obs[r'-σ.ob.length]?=some o1∧o'=o1.shift σ.ob.length:=by
  intro r' o' hlt h;rw [List.getElem?_append_right (by simp;omega),List.getElem?_map,Option.map_eq_some_iff,List.length_set] at h;obtain⟨o1,h,rfl⟩:=h;exact⟨o1,h,rfl⟩
 have refo:∀(r':Nat) x,r'<σ.ob.length→(E.ref++E1.ref)[r']?=some x→E.ref[r']?=some x:=by
  intro r' x hlt h
  rwa [List.getElem?_append_left (by rw [R.len];exact hlt)] at h
 have refn:∀(r':Nat) x,¬r'<σ.ob.length→(E.ref++E1.ref)[r']?=some x→E1.ref[r'-σ.ob.length]?=some x:=by
  intro r' x hlt h
  rwa [List.getElem?_append_right (by rw [R.len];omega),R.len] at h
 refine⟨⟨fun b=>E.B b∨E1.B b,E.F,E.ref++E1.ref⟩,L,?_,R.df,R.n,fun i=>(R.tm i).mono L,by simp [R.len,hlen1],fun r' o' hr'=>?_,fun r1 r2 o1 o2 g1 g2 u1 u2 b h1 h2 h3 h4 h5 h6 h7 h8 h9=>?_,fun b hb=>?_,R.fr,fun b hb hlt=>?_,⟨R1.keep.os.trans R.keep.os,R1.keep.tape.trans R.keep.tape,R1.keep.output.trans R.keep.output,Nat.le_trans R.keep.size R1.keep.size,fun k hk' hn=>(R1.keep.block k (Nat.lt_of_lt_of_le hk' R.keep.size) (fun e=>?_)).trans (R.keep.block k hk' hn)⟩⟩
 ·have:=R1.tm 0
  simp only [xae,if_true] at this;exact xnb (E0:=⟨fun b=>E.B b∨E1.B b,E.F,E.ref++E1.ref⟩) (fun b hb=> .inr hb) hF (by simp [R.len]) hrr (by simpa using this)
 ·by_cases hlt:r'<σ.ob.length
  ·by_cases e:r=r'
   ·subst e
    obtain rfl:=same o' hr';refine⟨u0,by rw [List.getElem?_append_left (by rw [R.len];exact hlt)];exact hu,?_⟩;unfold OkO at p2⊢;rw [hk] at p2;simp only [hk];obtain⟨b,cs,rfl,m1,m2,m3,m4⟩:=p2;simp only [blk,Option.some.injEq] at hb0;subst hb0;refine⟨b,cs',rfl,hh',xfj (E0:=⟨fun b=>E.B b∨E1.B b,E.F,E.ref++E1.ref⟩) (fun b hb=> .inr hb) hF hdp hd',m3,?_⟩;rw [if_pos hl];exact fun h=>h.elim hEb hnb
   ·have h0:=oldo r' o' hlt e hr'
    obtain⟨u,k1,k2⟩:=R.ob r' o' h0;refine⟨u,by rw [List.getElem?_append_left (by rw [R.len];exact hlt)];exact k1,k2.keep L (fun b hb=>?_) (fun hl' b hb hn hB=>?_)⟩
    ·refine hbk b (k2.blk_lt hb) (fun eb=>?_)
     subst eb;cases hl1:o'.live with
     |true=>exact R.sep r r' o o' o.g o'.g u0 u b e hr h0 hl hl1 hu k1 hb0 hb
     |false=>
      refine hEb ?_;unfold OkO at k2;split at k2
      ·obtain⟨b',cs,rfl,q2,_,_,q5⟩:=k2
       simp only [blk,Option.some.injEq] at hb;subst hb;rw [hl1] at q5;simp only [Bool.false_eq_true,if_false] at q5;exact q5.1
      ·obtain⟨s,l,xs,q1,q2,q3,q4,q5,q6,q7,q8⟩:=k2
       have:=q8 b hb;rw [hl1] at this;simpa using this
      ·rw [k2.1] at hl1;cases hl1
    ·rcases hB with hB|hB
     ·exact hn hB
     ·rcases hE1 b hB with h|h
      ·exact hn h
      ·have:=k2.blk_lt hb
       omega
  ·obtain⟨o1,h0,rfl⟩:=newo r' o' hlt hr'
   obtain⟨u,k1,k2⟩:=R1.ob _ o1 h0;refine⟨u,by rw [List.getElem?_append_right (by rw [R.len];omega),R.len];exact k1,?_⟩;obtain⟨hl1,hg1,e,hke⟩:=hobs o1 (List.mem_of_getElem? h0);have hwr:∀b,blk u=some b→w.heap.size≤b:=fun b hb=>k2.wrRow hke hb;have hnB:∀b,blk u=some b→¬E1.B b→¬(E.B b∨E1.B b):=by
    intro b hb hn hB;rcases hB with hB|hB
    ·have:=R.lt b hB
     have:=hwr b hb;omega
    ·exact hn hB
   unfold OkO at k2⊢;rw [hke] at k2;simp only [Ob.shift,hke];obtain⟨s,l,xs,m1,m2,m3,m4,m5,m6,m7,m8⟩:=k2;refine⟨s,l,xs,by rw [m1];simp only [V.shift,V.shifts_pure _ l m2],m2,m3,m4,m5,⟨m6.1,?_⟩,xib (E0:=⟨fun b=>E.B b∨E1.B b,E.F,E.ref++E1.ref⟩) (fun b hb=> .inr hb) hF m2 m7,fun b hb=>?_⟩
   ·rcases m6.2 with h|⟨g,cap,cur,e1,e2,e3⟩
    ·exact .inl h
    ·exact .inr ⟨g,cap,cur,e1,Nat.le_trans hwW e2,e3⟩
   ·have:=m8 b hb
    rw [hl1] at this;simp only [if_true] at this;rw [if_pos hl1];exact hnB b hb this
 ·
  have info:∀(r1:Nat) (o1:Ob) (g1:Nat) (u1:Value),(σ.ob.set r {o with v:=d}++obs.map (Ob.shift σ.ob.length))[r1]?=some o1→(E.ref++E1.ref)[r1]?=some (g1,u1)→
    (r1<σ.ob.length∧∃o',σ.ob[r1]?=some o'∧o'.live=o1.live∧E.ref[r1]?=some (g1,u1))∨(¬r1<σ.ob.length∧∃o',obs[r1-σ.ob.length]?=some o'∧o'.live=o1.live∧E1.ref[r1-σ.ob.length]?=some (g1,u1)):=by
   intro r1 o1 g1 u1 q1 q2;by_cases hlt:r1<σ.ob.length
   ·by_cases e:r=r1
    ·subst e
     obtain rfl:=same o1 q1;exact .inl ⟨hlt,o,hr,rfl,refo _ _ hlt q2⟩
    ·exact .inl ⟨hlt,o1,oldo _ _ hlt e q1,rfl,refo _ _ hlt q2⟩
   ·obtain⟨o',k1,rfl⟩:=newo _ _ hlt q1
    exact .inr ⟨hlt,o',k1,rfl,refn _ _ hlt q2⟩
  have oldlt:∀(r1:Nat) (o':Ob) (g1:Nat) (u1:Value),σ.ob[r1]?=some o'→E.ref[r1]?=some (g1,u1)→blk u1=some b→b<w.heap.size:=by
   intro r1 o' g1 u1 q1 q2 q3;obtain⟨u2,e1,e2⟩:=R.ob r1 o' q1;rw [q2] at e1;injection e1 with e1
   injection e1 with _ e1
   subst e1;exact e2.blk_lt q3
  have newge:∀(r1:Nat) (o':Ob) (g1:Nat) (u1:Value),obs[r1]?=some o'→E1.ref[r1]?=some (g1,u1)→blk u1=some b→w.heap.size≤b:=by
   intro r1 o' g1 u1 q1 q2 q3;obtain⟨u2,e1,e2⟩:=R1.ob r1 o' q1;rw [q2] at e1;injection e1 with e1
   injection e1 with _ e1
   subst e1;obtain⟨_,_,e,hke⟩:=hobs o' (List.mem_of_getElem? q1);exact e2.wrRow hke q3
  rcases info r1 o1 g1 u1 h2 h6 with ⟨c1,o1',d1,d2,d3⟩|⟨c1,o1',d1,d2,d3⟩
  ·rcases info r2 o2 g2 u2 h3 h7 with ⟨c2,o2',f1,f2,f3⟩|⟨c2,o2',f1,f2,f3⟩
   ·exact R.sep r1 r2 o1' o2' g1 g2 u1 u2 b h1 d1 f1 (by rw [d2];exact h4) (by rw [f2];exact h5) d3 f3 h8 h9
   ·have:=oldlt _ _ _ _ d1 d3 h8
    have:=newge _ _ _ _ f1 f3 h9;omega
  ·rcases info r2 o2 g2 u2 h3 h7 with ⟨c2,o2',f1,f2,f3⟩|⟨c2,o2',f1,f2,f3⟩
   ·have:=newge _ _ _ _ d1 d3 h8
    have:=oldlt _ _ _ _ f1 f3 h9;omega
   ·exact R1.sep _ _ o1' o2' g1 g2 u1 u2 b (by omega) d1 f1 (by rw [d2];exact h4) (by rw [f2];exact h5) d3 f3 h8 h9
 ·rcases hb with hb|hb
  ·exact Nat.lt_of_lt_of_le (R.lt b hb) R1.keep.size
  ·exact R1.lt b hb
 ·rcases hb with hb|hb
  ·exact R.old b hb hlt
  ·rcases hE1 b hb with h|h
   ·exact R.old b h hlt
   ·omega
 ·subst e
  rcases p2.wr hb0 with h|h
  ·omega
  ·exact hn h
theorem Rel.outM {W:World} {S:Nat→Prop} {b0:Nat} (R:Rel ⟨W,(· =b0),S⟩ E σ a w) (hb0:b0<W.heap.size) {T:TypeId} {g0:Nat} {d:V} (h0:σ.ob[0]?=some ⟨.box true T,true,g0,d⟩) (hd:d.pure=true) {ids:List Nat} (ho:xiz σ ids) {x:V} {v:Value} (hx:RdT E w x v) (hp:V.resOk σ x):ResOkM W w S b0 T (x.res σ ids) (xgh σ ids) d v:=by
 obtain⟨u0,p1,p2⟩:=R.ob 0 _ h0;have hbox:∃cs:List Value,u0=.pointer (some ⟨b0,0,none⟩)∧w.heap[b0]?=some (.cells cs.toArray T (0,0))∧RdV E w d cs∧¬E.B b0:=by
  unfold OkO at p2;obtain⟨b,cs,m1,m2,m3,m4,m5⟩:=p2;simp only [if_true] at m4 m5;have m4:b=b0:=m4.1;subst m4;exact⟨cs,m1,m2,m3,m5⟩
 obtain⟨cs0,rfl,q1,q2,q3⟩:=hbox;refine⟨_,xzf R,fun hb=>?_,(R.outG ho hx hp R.keep).1,(R.outG ho hx hp R.keep).2,hd,cs0,q1,?_⟩
 ·rcases hb with hb|hb
  ·exact q3 hb
  ·have hb:W.heap.size≤b0:=hb.1
   omega
 ·exact xfj (E0:=outE W w E ids) (fun b hb=> .inl hb) (outF R) hd q2
def ykp (P:Program) (f:FuncId) (W:World) (S:Nat→Prop) (b0:Nat) (T:TypeId) (R0:V→List Ob→V→Prop):Exit→Act→World→Prop:=fun e a w=>
 ∀fn,P.funcs[f]?=some fn→bodyPost P fn (fun e w'=>∃x obs d v,R0 x obs d∧e=.returned v∧ResOkM W w' S b0 T x obs d v) e a w
theorem xo9 {f:FuncId} {W:World} {S:Nat→Prop} {b0:Nat} {T:TypeId} {R0:V→List Ob→V→Prop} {n0 N n:Nat} {m:MC} {rs:List POp} {k:List It} {t:List (Nat×V)} {ob:List Ob} {y z d:V} {g0:Nat} {c:Prop} {obs:List Ob} (hb0:b0<W.heap.size) (hc:xcd P f=some (n0,m,rs)) (ids:List Nat) (hv:retV ⟨n,t,ob⟩ rs=(y,c)) (hcc:c) (ho:xiz ⟨n,t,ob⟩ ids) (hp:V.resOk ⟨n,t,ob⟩ y) (hz:y.res ⟨n,t,ob⟩ ids=z)
  (hobs:xgh ⟨n,t,ob⟩ ids=obs) (h0:ob[0]?=some ⟨.box true T,true,g0,d⟩) (hd:d.pure=true) (h:R0 z obs d):Ev P ⟨W,(· =b0),S⟩ N (ykp P f W S b0 T R0) (.code .ret::k) ⟨n,t,ob⟩:=by
 subst hz hobs;refine xqe fun E a w R fn hfn=>?_;unfold xcd at hc;rw [hfn] at hc;simp only at hc;split at hc
 ·split at hc
  ·rename_i h1 h2
   simp only [Option.some.injEq,Prod.mk.injEq] at hc;obtain⟨_,_,rfl⟩:=hc;obtain⟨v,k1,k2⟩:=xgk R h2 (by rw [hv];exact hcc);rw [hv] at k2;exact bodyPost_ret k1 R.df ⟨_,_,_,v,h,rfl,R.outM hb0 h0 hd ho k2 hp⟩
  ·cases hc
 ·cases hc
theorem FncM.intro {f:FuncId} {n:Nat} {m:MC} {rs:List POp} {T:TypeId} {d:V} {xs:List V} {R0:V→List Ob→V→Prop} (hc:xcd P f=some (n,m,rs)) (hx:xs.length+1≤n)
  (h:∀W S b0,b0<W.heap.size→Ev P ⟨W,(· =b0),S⟩ n (ykp P f W S b0 T R0) [.code m] ⟨n,ents 0 (.ptr 0 0 [] 0::xs),[⟨.box true T,true,0,d⟩]⟩):FncM P f T d xs R0:=by
 intro W S b0 hS cs hcs hdr vs hvs;have hc':=hc;unfold xcd at hc;split at hc
 ·rename_i fn hfn
  split at hc
  ·rename_i c hb
   split at hc
   ·rename_i h1 h2
    simp only [Option.some.injEq,Prod.mk.injEq] at hc;obtain⟨rfl,rfl,rfl⟩:=hc;refine calls_of_wp hfn hb ?_;have hl:=xjo hvs;have L:Leads (argS S) W ⟨S,fun b=>W.heap.size≤b,[(0,.pointer (some ⟨b0,0,none⟩))]⟩ W:=⟨fun b hb=>⟨hb,rfl⟩,fun _ h=>h.elim,by simp [argS],fun r g u hr=>by simp [argS] at hr⟩;have hptr:RdT ⟨S,fun b=>W.heap.size≤b,[(0,.pointer (some ⟨b0,0,none⟩))]⟩ W (.ptr 0 0 [] 0) (.pointer (some ⟨b0,0,none⟩)):=xr2 (g':=0) (u:=.pointer (some ⟨b0,0,none⟩)) rfl rfl;have hall:RdTs ⟨S,fun b=>W.heap.size≤b,[(0,.pointer (some ⟨b0,0,none⟩))]⟩ W (.ptr 0 0 [] 0::xs) (.pointer (some ⟨b0,0,none⟩)::vs):=by
     simp only [RdTs];exact⟨_,_,rfl,hptr,hvs.mono L⟩
    have R:Rel ⟨W,(· =b0),S⟩ ⟨S,fun b=>W.heap.size≤b,[(0,.pointer (some ⟨b0,0,none⟩))]⟩ ⟨fn.ntmps,ents 0 (.ptr 0 0 [] 0::xs),[⟨.box true T,true,0,d⟩]⟩ {tmps:=(Value.pointer (some ⟨b0,0,none⟩)::vs).toArray++Array.replicate (fn.ntmps-(Value.pointer (some ⟨b0,0,none⟩)::vs).toArray.size) undef,defers:=[]} W:=by
     refine⟨rfl,by simp [hl];omega,fun j=>?_,rfl,fun r o hr=>?_,fun r r' o o' g g' u u' b hne hr hr'=>?_,fun b hb=>(hS b hb).1,fun b=>Iff.rfl,fun b hb _=>hb,Keep.refl _ _⟩
     ·rw [xgs,if_pos (Nat.zero_le _),Nat.sub_zero]
      have:=xlu j hall;by_cases hj:j<(Value.pointer (some ⟨b0,0,none⟩)::vs).length
      ·have e:((Value.pointer (some ⟨b0,0,none⟩)::vs).toArray++Array.replicate (fn.ntmps-(Value.pointer (some ⟨b0,0,none⟩)::vs).toArray.size) undef).getD j undef=(Value.pointer (some ⟨b0,0,none⟩)::vs).getD j undef:=by
        have hj':j<(Value.pointer (some ⟨b0,0,none⟩)::vs).toArray.size:=by simpa using hj
        simp only [Array.getD_eq_getD_getElem?,Array.getElem?_append,hj',if_true];simp [List.getD_eq_getElem?_getD]
       rw [e];exact this
      ·have e:(V.ptr 0 0 [] 0::xs).getD j .junk=.junk:=by
        have:xs.length+1≤j:=by simp at hj;omega
        simp [List.getD_eq_getElem?_getD,List.getElem?_eq_none (show(V.ptr 0 0 [] 0::xs).length≤j by simpa using this)]
       simp only;rw [e];simp only [RdT]
     ·cases r with
      |zero=>
       simp only [List.getElem?_cons_zero,Option.some.injEq] at hr;subst hr;refine⟨_,rfl,?_⟩;unfold OkO;exact⟨b0,cs,rfl,hcs,hdr.mono L,by rw [if_pos rfl];exact⟨rfl,fun h=>by have h1:W.heap.size+b0<W.heap.size:=(hS _ h).1;omega⟩,by simp only [if_true];exact fun hb=>(hS b0 hb).2 rfl⟩
      |succ r=>simp at hr
     ·have h1:=(List.getElem?_eq_some_iff.1 hr).1
      have h2:=(List.getElem?_eq_some_iff.1 hr').1;simp at h1 h2;omega
    have:=(h W S b0 (xgx hcs)).h rfl _ _ _ R;rw [xbo] at this;refine wp_mono (this c h1) fun e a w hq=>?_;cases e with
    |normal=>simp only [onX,wpS] at hq;exact hq fn hfn
    |exit id=>simp only [onX,xfe] at hq;exact hq fn hfn
    |goto l=>exact hq fn hfn
    |ret=>exact hq fn hfn
    |panic c=>exact hq fn hfn
    |outgrown=>exact hq fn hfn
   ·cases hc
  ·cases hc
 ·cases hc
theorem xq2 (R:Rel cx E σ a w) {f:FuncId} {as:List Operand} {xs:List X} (hxs:xev as=some xs) {r g:Nat} {ws ys:List V} {q:Bool} {T:TypeId} {dc d:V} {R0:V→List Ob→V→Prop} (hF:FncM P f T d ys R0) (hx:xs.map (X.ev σ)=.ptr r g [] 0::ws) (hob:σ.ob[r]?=some ⟨.box q T,true,g,dc⟩)
  (hdp:dc.pure=true) (hd:dc.low=d) (hwp:V.pures ws=true) (hys:V.lows ws=ys):
  Calls P f (as.map a.eval).toArray w fun e w'=>∃x obs d' v,R0 x obs d'∧e=.returned v∧∃E',Leads E w E' w'∧RdT E' w' (x.shift σ.ob.length) v∧Rel cx E' {σ with ob:=σ.ob.set r ⟨.box q T,true,g,d'⟩++obs.map (Ob.shift σ.ob.length)} a w':=by
 subst hd hys;have hr:=xbz R hxs;rw [hx] at hr;simp only [RdTs] at hr;obtain⟨v0,vs,he,h1,h2⟩:=hr;rw [he];obtain⟨ob,u,b,zs,k1,k2,k3,k4,k5,k6,k7,k8,k9⟩:=xn2 R h1 (by simp [obV,hob]);rw [hob] at k1;obtain rfl:=Option.some.inj k1;have k10:=k5;unfold OkO at k5;simp only at k5;obtain⟨b',cs,rfl,m1,m2,m3,m4⟩:=k5;simp only [blk,Option.some.injEq] at k6;subst k6;simp only [if_true] at m4;subst k7;have hS:∀b,E.B b→b<w.heap.size∧b≠b':=fun b hb=>⟨R.lt b hb,fun e=>m4 (e▸hb)⟩;refine(hF w E.B b' hS cs m1 (xeq (E:=E) (E0:=argS E.B) (fun _ h=>h) hdp m2) vs (xhl (E:=E) (E0:=argS E.B) (fun _ h=>h) hwp h2)).mono ?_
 rintro e w' ⟨x,obs,d',v,hR,rfl,hres⟩
 obtain⟨E',L,hx',R'⟩:=R.backM hob rfl rfl k4 (b0:=b') rfl hres;exact⟨x,obs,d',v,hR,rfl,E',L,hx',R'⟩
theorem xie {N:Nat} {Q:Exit→Act→World→Prop} {k:List It} {n:Nat} {t:List (Nat×V)} {ob:List Ob} {l:List RO} {gd:Option (Nat×Bool)} {i:Nat} {f:FuncId} {xs:List X} {r g:Nat} {ws ys:List V} {q:Bool} {T:TypeId} {dc d:V} {R0:V→List Ob→V→Prop} (hF:FncM P f T d ys R0) (hw:xat ⟨n,t,ob⟩ gd=some true)
  (hx:xs.map (X.ev ⟨n,t,ob⟩)=.ptr r g [] 0::ws) (hob:ob[r]?=some ⟨.box q T,true,g,dc⟩) (hdp:dc.pure=true) (hd:dc.low=d) (hwp:V.pures ws=true) (hys:V.lows ws=ys)
  (h:∀x obs d',R0 x obs d'→EvR P cx N Q k l ⟨n,(i,x.shift ob.length)::t,ob.set r ⟨.box q T,true,g,d'⟩++obs.map (Ob.shift ob.length)⟩):EvR P cx N Q k (⟨some i,gd,.call f xs⟩::l) ⟨n,t,ob⟩:=by
 refine⟨fun hn E a w R ops os hcc=>?_⟩;obtain⟨o,os',rfl,h1,h2⟩:=xak hcc;obtain⟨k1,k2,k3,k4⟩:=xal h1;obtain⟨as,hxs,hrun⟩:=xbt k1 a;unfold wpList;rw [if_pos (xc6 R k2 hw)];refine .inl ?_;unfold Oper.wp;rw [hrun w,Oper.upon_enter];refine(xq2 R hxs hF hx hob hdp hd hwp hys).mono ?_
 rintro e w' ⟨x,obs,d',v,hR,rfl,E',L,hx',R'⟩
 show wpList P ops (onX P cx N Q k) os' (a.put o.dst v) w';rw [show o.dst=some i from k3];exact(h x obs d' hR).h hn E' _ w' (R'.put (d:=some i) (fun j hj=>by show j<n;rw [show n=N from hn];exact k4 j hj) hx') ops os' h2
end
end Rdn.Dp
namespace Rdn.Dp
open Go Go.RowKit Rdn
def V.isInt:V→Bool
 | .int _ _=>true
 |_=>false
theorem xow {E E':Env} {w w':World}:∀{l:List V} {xs:List Value},l.all V.isInt=true→RdL E w l xs→RdL E' w' l xs
 |[],xs,_,h=>by simp only [RdL] at h⊢;exact h
 |x::l,xs,hp,h=>by
  simp only [List.all_cons,Bool.and_eq_true] at hp;simp only [RdL] at h⊢;obtain⟨c,ys,h1,h2,h3⟩:=h;refine⟨c,ys,h1,?_,xow hp.2 h3⟩;cases x<;>simp [V.isInt] at hp
  simp only [RdV] at h2⊢;exact h2
theorem xqt:∀{l:List V},l.all V.isInt=true→V.pures l=true
 |[],_=>rfl
 |x::l,hp=>by
  simp only [List.all_cons,Bool.and_eq_true] at hp;simp only [V.pures,xqt hp.2,Bool.and_true];cases x<;>simp [V.isInt] at hp
  rfl
theorem xdp {w:World} {m base e s n:Nat} {v:Value} {xs:List Value} (h:w.ownsRow m e s v n xs) (hb:∀b,blk v=some b→base≤b):w.ownsRow base e s v n xs:=by
 refine⟨h.1,?_⟩;rcases h.2 with h|⟨g,cap,cur,rfl,e2,e3⟩
 ·exact .inl h
 ·exact .inr ⟨g,cap,cur,rfl,hb _ rfl,e3⟩
theorem yhb {w:World} {m e s n:Nat} {v:Value} {xs:List Value} (h:w.ownsRow m e s v n xs):v.oneCell'=true:=by
 rcases h.2 with ⟨rfl,_⟩|⟨g,cap,cur,rfl,e2,e3⟩<;>rfl
def yiz (w w':World) (v0:Value) (e s:Nat) (l:List V) (v:Value):Prop:=
 l.all V.isInt=true∧Unif s l∧0<s∧l.length≤140737488355328∧Keep (fun b=>blk v0=some b) w w'∧∃xs,w'.ownsRow 0 e s v l.length xs∧RdL (argS fun _=>False) w' l xs∧∀b,blk v=some b→w.heap.size≤b∨blk v0=some b
def FncA (P:Program) (f:FuncId) (e s:Nat) (l:List V) (xs:List V) (R:List V→Prop):Prop:=
 ∀(w:World) (S:Nat→Prop) (v0:Value) (zs:List Value),(∀b,S b→b<w.heap.size∧blk v0≠some b)→l.all V.isInt=true→Unif s l→0<s→l.length≤140737488355328→w.ownsRow 0 e s v0 l.length zs→RdL (argS S) w l zs→∀vs,RdTs (argS S) w xs vs→
  Calls P f (v0::vs).toArray w fun x w'=>∃l' v,R l'∧x=.returned v∧yiz w w' v0 e s l' v
section
variable {P:Program} {cx:Cx} {E:Env} {σ:AS} {a:Act} {w:World}
theorem xwv (R:Rel cx E σ a w) {f:FuncId} {as:List Operand} {xs:List X} (hxs:xev as=some xs) {r g:Nat} {ws ys:List V} {kk:OK} {e s:Nat} {l:List V} {R0:List V→Prop} (hF:FncA P f e s l ys R0) (hx:xs.map (X.ev σ)=.own r g::ws) (hob:σ.ob[r]?=some ⟨kk,true,g,.arr s l⟩) (hk:kk=.row e∨∃q,kk=.rows q e)
  (hi:l.all V.isInt=true) (hwp:V.pures ws=true) (hys:V.lows ws=ys):
  Calls P f (as.map a.eval).toArray w fun x w'=>∃l' v,R0 l'∧x=.returned v∧l'.all V.isInt=true∧∃E',Leads E w E' w'∧RdT E' w' (.own r (g+1)) v∧Rel cx E' {σ with ob:=σ.ob.set r ⟨kk,true,g+1,.arr s l'⟩} a w':=by
 subst hys;have hr:=xbz R hxs;rw [hx] at hr;simp only [RdTs] at hr;obtain⟨v0,vs,he,h1,h2⟩:=hr;rw [he];obtain⟨u,p1,p2⟩:=R.ob r _ hob;have hu:v0=u:=by
  simp only [RdT,RdV] at h1;obtain⟨v',e1,e2,e3,e4⟩:=h1;simp only [List.cons.injEq,and_true] at e1;subst e1;exact(e4 g u p1).2 rfl
 subst hu;have hrl:r<E.ref.length:=(List.getElem?_eq_some_iff.1 p1).1;have hwr:∀b,blk v0=some b→cx.W.heap.size≤b∨cx.lent b:=fun b hb=>p2.wr hb;have hlb:∀b,blk v0=some b→¬E.B b:=fun b hb=>p2.live_B rfl hb;have info:∃zs,Unif s l∧0<s∧l.length≤140737488355328∧w.ownsRow (kk.base cx.W.heap.size) e s v0 l.length zs∧RdL E w l zs:=by
  unfold OkO at p2;rcases hk with rfl|⟨q,rfl⟩
  ·obtain⟨s',l',zs,q1,q2,q3,q4,q5,q6,q7,q8⟩:=p2
   injection q1 with c1 c2
   subst c1 c2;exact⟨zs,q3,q4,q5,q6,q7⟩
  ·obtain⟨_,s',l',zs,q1,q3,q4,q5,q6,q7,q8⟩:=p2
   injection q1 with c1 c2
   subst c1 c2;exact⟨zs,q3,q4,q5,q6,q7⟩
 obtain⟨zs,q3,q4,q5,q6,q7⟩:=info;refine(hF w E.B v0 zs (fun b hb=>⟨R.lt b hb,fun h=>hlb b h hb⟩) hi q3 q4 q5 (xdp q6 fun _ _=>Nat.zero_le _) (xow hi q7) vs (xhl (E:=E) (E0:=argS E.B) (fun _ h=>h) hwp h2)).mono ?_
 rintro x w' ⟨l',v,hR,rfl,m1,m2,m3,m4,m5,xs',m6,m7,m8⟩
 have hB:∀b,blk v=some b→¬E.B b:=fun b hb hB'=>by
  rcases m8 b hb with h|h
  ·have:=R.lt b hB'
   omega
  ·exact hlb b h hB'
 have hW:cx.W.heap.size≤w.heap.size:=R.keep.size;have hOk:OkO cx {E with ref:=E.ref.set r (g+1,v)} w' ⟨kk,true,g+1,.arr s l'⟩ v:=by
  rcases hk with rfl|⟨q,rfl⟩
  ·unfold OkO
   refine⟨s,l',xs',rfl,xqt m1,m2,m3,m4,xdp m6 fun b hb=>?_,xow m1 m7,fun b hb=>?_⟩
   ·rcases m8 b hb with h|h
    ·omega
    ·exact p2.wrRow rfl h
   ·simp only [if_true]
    exact hB b hb
  ·unfold OkO
   refine⟨rfl,s,l',xs',rfl,m2,m3,m4,xdp m6 fun b hb=>?_,xow m1 m7,fun b hb=>⟨hB b hb,?_⟩⟩
   ·rcases m8 b hb with h|h
    ·exact Nat.le_trans (OK.base_le _ _) (Nat.le_trans hW h)
    ·rcases q6.2 with ⟨rfl,_⟩|⟨g',cap,cur,rfl,k1,k2⟩
     ·simp [blk] at h
     ·simp only [blk,Option.some.injEq] at h
      subst h;exact k1
   ·rcases m8 b hb with h|h
    ·exact .inl (Nat.le_trans hW h)
    ·exact hwr b h
 obtain⟨L',R'⟩:=R.touch (o':=⟨kk,true,g+1,.arr s l'⟩) (u':=v) hob rfl p1 m5 rfl (.inr rfl) (fun b hb=>(m8 b hb).symm) hOk;refine⟨l',v,hR,rfl,m1,_,L',?_,R'⟩;simp only [RdT,RdV];refine⟨_,rfl,yhb m6,by simpa using hrl,fun gc u h=>?_⟩;rw [List.getElem?_set_self hrl] at h;injection h with h
 injection h with h1 h2
 exact⟨by omega,fun _=>h2⟩
end
end Rdn.Dp
