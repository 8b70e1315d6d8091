import Derived.Test.YthmjocibdepahaaGreatA5
set_option linter.unusedSimpArgs false
set_option linter.unusedVariables false
namespace Go.Proofs.YthmjocibdepahaaGreat
open Go Go.RowKit Rdn Rdn.Dp
theorem subVs_len:∀{l m:List V},SubVs l m→m.length=l.length
 |[],[],_=>rfl
 |x::l,y::m,h=>by simp [subVs_len h.2]
 |[],y::m,h=>h.elim
 |x::l,[],h=>h.elim
theorem mQ {α:Type} {s:Nat} {f:α→V} (h:∀a,(f a).size=s) (l:List α):Unif s (l.map f):=fun x hx=>by
 obtain⟨a,_,rfl⟩:=List.mem_map.1 hx;exact h a
theorem yee:∀{l m:List V} (k:Nat) {x y:V},SubVs l m→SubV x y→SubVs (l.set k x) (m.set k y)
 |[],[],_,_,_,_,_=>trivial
 |a::l,b::m,0,_,_,h,hx=>⟨hx,h.2⟩
 |a::l,b::m,k+1,_,_,h,hx=>⟨h.1,yee k h.2 hx⟩
 |[],b::m,_,_,_,h,_=>h.elim
 |a::l,[],_,_,_,h,_=>h.elim
theorem yvz {α:Type} (t:Bool) (s:Nat) (f:α→V) (l:List (List α)) (k:Nat):SubVs ((l.map (bD t s f)).set k .nilS) ((l.set k []).map (bD t s f)):=by
 rw [List.map_set];exact yee k (SubVs.refl _) (SubV.nil _ _)
end Go.Proofs.YthmjocibdepahaaGreat
namespace Rdn.Dp
open Go Go.RowKit Rdn
section
variable {P:Program} {cx:Cx} {E E':Env} {σ:AS} {a:Act} {w w':World} {N:Nat} {Q:Exit→Act→World→Prop} {k:List It} {l:List RO} {n:Nat} {t:List (Nat×V)} {ob:List Ob}
theorem ykt {d:Option Nat} {gd:Option (Nat×Bool)} {m:MOp} {x:V} {σ':AS} (hw:bQ σ gd=some true) (hL:∀{E a w} {o:Oper},Rel cx E σ a w→rC P o.op=some m→nR P cx E a w o x σ') (hn:σ'.n=σ.n) (h:EvR P cx N Q k l (σ'.put d x)):EvR P cx N Q k (⟨d,gd,.m m⟩::l) σ:=by
 refine⟨fun hnn E a w R ops os hcc=>?_⟩;obtain⟨o,os',rfl,h1,h2⟩:=kX hcc;obtain⟨k1,k2,k3,k4⟩:=kY h1;unfold wpList;rw [if_pos (uH R k2 hw)];refine .inl ?_;obtain⟨v,w',E',hr,_,hx,R'⟩:=hL R (xg6 k1);have R2:=R'.put (d:=d) (fun i hi=>by rw [hn,show σ.n=N from hnn];exact k4 i hi) hx;have hgo:=h.h (by rw [AS.put_n,hn];exact hnn) E' _ w' R2 ops os' h2;unfold Oper.wp;rcases hr with hr|⟨hr,rfl⟩
 ·rw [hr,Oper.upon_value,show o.dst=d from k3]
  exact hgo
 ·rw [hr,Oper.upon_skip,show o.dst=d from k3]
  exact hgo
theorem xC {d:Option Nat} {gd:Option (Nat×Bool)} {e s m:Nat} {z:V} {ps:List (Nat×X)} (hw:bQ σ gd=some true) {q:List V} (hq:kG (List.replicate m z) (gB σ ps)=q) (hf:sS (List.replicate m z) (gB σ ps)) (h:EvR P cx N Q k l ((⟨σ.n,σ.t,σ.ob++[⟨.rows false e,true,0,.arr s q⟩]⟩:AS).put d (.own σ.ob.length 0))):EvR P cx N Q k (⟨d,gd,.m (.buildS e s z m ps)⟩::l) σ:=by
 subst hq;refine ykt (x:=.own σ.ob.length 0) (σ':=⟨σ.n,σ.t,σ.ob++[⟨.rows false e,true,0,.arr s (kG (List.replicate m z) (gB σ ps))⟩]⟩) hw (fun {E a w o} R hc=>?_) rfl h;obtain⟨T,qs,i,h1,h2,h3,h4,h5,h6,h7,h8,rfl⟩:=xuz hc;exact(xu2 R h1 h2 h3 h4 h5 h6 h7 h8 hf).1
theorem Rel.kind (R:Rel cx E ⟨n,t,ob⟩ a w) {r:Nat} {o o':Ob} (hr:ob[r]?=some o) (hg:o'.g=o.g) (hl:o'.live=o.live) (ho:∀u,OkO cx E w o u→OkO cx E w o' u):Rel cx E ⟨n,t,ob.set r o'⟩ a w:=by
 have rl:r<ob.length:=(List.getElem?_eq_some_iff.1 hr).1;have get:∀(j:Nat) (o1:Ob),(ob.set r o')[j]?=some o1→∃o2:Ob,ob[j]?=some o2∧o1.live=o2.live∧o1.g=o2.g∧∀u,OkO cx E w o2 u→OkO cx E w o1 u:=by
  intro j o1 h;by_cases e:r=j
  ·subst e
   rw [List.getElem?_set_self rl] at h;obtain rfl:=Option.some.inj h;exact⟨o,hr,hl,hg,ho⟩
  ·rw [List.getElem?_set_ne e] at h
   exact⟨o1,h,rfl,rfl,fun _ h=>h⟩
 refine⟨R.df,R.n,R.tm,by simp [R.len],fun j o1 h=>?_,fun r1 r2 o1 o2 g1 g2 u1 u2 b h1 h2 h3 h4 h5 h6 h7 h8 h9=>?_,R.lt,R.fr,R.old,R.keep⟩
 ·obtain⟨o2,k1,k2,k3,k4⟩:=get j o1 h
  obtain⟨u,m1,m2⟩:=R.ob j o2 k1;exact⟨u,by rw [k3];exact m1,k4 u m2⟩
 ·obtain⟨p1,k1,k2,k3,k4⟩:=get r1 o1 h2
  obtain⟨p2,q1,q2,q3,q4⟩:=get r2 o2 h3;exact R.sep r1 r2 p1 p2 g1 g2 u1 u2 b h1 k1 q1 (by rw [←k2];exact h4) (by rw [←q2];exact h5) h6 h7 h8 h9
theorem xxe {e g s:Nat} {q:List V} {u:Value} (h:OkO cx E w ⟨.row e,true,g,.arr s q⟩ u):OkO cx E w ⟨.rows false e,true,g,.arr s q⟩ u:=by
 have hw:=fun b hb=>h.wr (b:=b) hb;unfold OkO at h⊢;obtain⟨s',l,xs,h1,h2,h3,h4,h5,h6,h7,h8⟩:=h;exact⟨rfl,s',l,xs,h1,h3,h4,h5,h6,h7,fun b hb=>⟨by simpa using h8 b hb,hw b hb⟩⟩
theorem ymw {e g s:Nat} {q:List V} {u:Value} (hp:V.pures q=true) (h:OkO cx E w ⟨.rows false e,true,g,.arr s q⟩ u):OkO cx E w ⟨.row e,true,g,.arr s q⟩ u:=by
 unfold OkO at h⊢;obtain⟨_,s',l,xs,h1,h3,h4,h5,h6,h7,h8⟩:=h;have h1':=h1;injection h1 with e1 e2
 subst e1 e2;exact⟨_,_,xs,h1',hp,h3,h4,h5,h6,h7,fun b hb=>by simpa using (h8 b hb).1⟩
theorem iI (r:Nat) {e g s:Nat} {q:List V} (hr:ob[r]?=some ⟨.row e,true,g,.arr s q⟩) (h:Ev P cx N Q k ⟨n,t,ob.set r ⟨.rows false e,true,g,.arr s q⟩⟩):Ev P cx N Q k ⟨n,t,ob⟩:=⟨fun hn E a w R=>h.h hn E a w (R.kind hr rfl rfl fun _=>xxe)⟩
theorem uA (r:Nat) {e g s:Nat} {q:List V} (hr:ob[r]?=some ⟨.row e,true,g,.arr s q⟩) (h:EvR P cx N Q k l ⟨n,t,ob.set r ⟨.rows false e,true,g,.arr s q⟩⟩):EvR P cx N Q k l ⟨n,t,ob⟩:=⟨fun hn E a w R=>h.h hn E a w (R.kind hr rfl rfl fun _=>xxe)⟩
theorem fG (r:Nat) {e g s:Nat} {q:List V} (hr:ob[r]?=some ⟨.rows false e,true,g,.arr s q⟩) (hp:V.pures q=true) (h:Ev P cx N Q k ⟨n,t,ob.set r ⟨.row e,true,g,.arr s q⟩⟩):Ev P cx N Q k ⟨n,t,ob⟩:=⟨fun hn E a w R=>h.h hn E a w (R.kind hr rfl rfl fun _=>ymw hp)⟩
theorem Rel.frzIn (R:Rel cx E ⟨n,t,ob⟩ a w) {r j e g s r' g' e' s':Nat} {q q':List V} (hr:ob[r]?=some ⟨.rows false e,true,g,.arr s q⟩) (hj:q[j]?=some (.own r' g')) (hr':ob[r']?=some ⟨.row e',true,g',.arr s' q'⟩):∃E',Rel cx E' ⟨n,t,(ob.set r' ⟨.row e',false,g',.arr s' q'⟩).set r ⟨.rows false e,true,g,.arr s (q.set j (.sl true s' q'))⟩⟩ a w:=by
 have hne:r'≠r:=by
  rintro rfl
  rw [hr] at hr';cases hr'
 obtain⟨u,k1,k2⟩:=R.ob r' _ hr';obtain⟨L,R1⟩:=R.freeze (r:=r') hr' k1 (fun b hb=>⟨k2.wrRow (e:=e') rfl hb,trivial⟩);have hup:((⟨n,t,ob⟩:AS).upd r' Ob.freeze)=⟨n,t,ob.set r' ⟨.row e',false,g',.arr s' q'⟩⟩:=by simp [AS.upd,hr',Ob.freeze]
 rw [hup] at R1;have rl':r'<ob.length:=(List.getElem?_eq_some_iff.1 hr').1;have hjl:=(List.getElem?_eq_some_iff.1 hj).1;have hjv:q[j]=.own r' g':=(List.getElem?_eq_some_iff.1 hj).2;refine⟨_,R1.kind (r:=r) (o:=⟨.rows false e,true,g,.arr s q⟩) (by rw [List.getElem?_set_ne hne];exact hr) rfl rfl fun u h=>?_⟩;unfold OkO at h⊢;obtain⟨_,s1,l1,xs,h1,h3,h4,h5,h6,h7,h8⟩:=h;injection h1 with c1 c2
 subst c1 c2;obtain⟨ys,c,zs,p1,p2,p3,p4⟩:=h7.part hjl;rw [hjv] at p3;have p3':=p3;simp only [RdV] at p3';obtain⟨v,rfl,_⟩:=p3';have hv:=xmo R1 (r:=r') (g:=g') (v:=v) (by simpa only [RdT] using p3) (by simp [bT,List.getElem?_set_self rl']) (fun o ho=>by
  have ho:(ob.set r' ⟨.row e',false,g',.arr s' q'⟩)[r']?=some o:=ho;rw [List.getElem?_set_self rl'] at ho;cases ho;rfl)
 have e1:(bT ⟨n,t,ob.set r' ⟨.row e',false,g',.arr s' q'⟩⟩ r' g').1=s':=by simp [bT,List.getElem?_set_self rl']
 have e2:(bT ⟨n,t,ob.set r' ⟨.row e',false,g',.arr s' q'⟩⟩ r' g').2.1=q':=by simp [bT,List.getElem?_set_self rl']
 rw [e1,e2] at hv;refine⟨rfl,s,_,xs,rfl,fun x hx=>?_,h4,by simpa using h5,by simpa using h6,?_,h8⟩
 ·rcases List.mem_or_eq_of_mem_set hx with hx|rfl
  ·exact h3 x hx
  ·have:=h3 q[j] (List.getElem_mem hjl)
   rw [hjv] at this;exact this
 ·rw [p1]
  exact p4 (fun _ _ h=>h) _ _ hv
theorem xi6 (r j r':Nat) {e g s g' e' s':Nat} {q q':List V} (hr:ob[r]?=some ⟨.rows false e,true,g,.arr s q⟩) (hr':ob[r']?=some ⟨.row e',true,g',.arr s' q'⟩) (hj:q[j]?=some (.own r' g')) (h:Ev P cx N Q k ⟨n,t,(ob.set r' ⟨.row e',false,g',.arr s' q'⟩).set r ⟨.rows false e,true,g,.arr s (q.set j (.sl true s' q'))⟩⟩):Ev P cx N Q k ⟨n,t,ob⟩:=by
 refine⟨fun hn E a w R=>?_⟩;obtain⟨E',R'⟩:=R.frzIn hr hj hr';exact h.h hn E' a w R'
end
mutual
def V.okW (σ:AS) (ids:List Nat):V→Prop
 | .own r g=>(ids.contains r=true∧(gG σ r g).2.2)∨(bT σ r g).2.2
 | .agg l=>V.oksW σ ids l
 | .tup l=>V.oksW σ ids l
 | .clo _ _=>False
 | .arr s l=>V.pures l=true
 | .int _ _=>True
 | .bool _=>True
 | .str _=>True
 | .nilS=>True
 | .sl _ _ _=>True
 | .fn _=>True
 | .lit _=>True
 | .ptr _ _ _ _=>False
 | .osl _ _ _ _ _=>False
 | .rp _=>True
 | .junk=>False
def V.oksW (σ:AS) (ids:List Nat):List V→Prop
 |[]=>True
 |x::l=>x.okW σ ids∧V.oksW σ ids l
end
mutual
theorem V.res_size (σ:AS) (ids:List Nat):∀x:V,(x.res σ ids).size=x.size
 | .own r g=>by simp only [V.res];split<;>rfl
 | .agg l=>by simp only [V.res,V.size];exact V.ress_sizes σ ids l
 | .tup l=>rfl
 | .clo _ l=>rfl
 | .arr s l=>rfl
 | .int _ _=>rfl
 | .bool _=>rfl
 | .str _=>rfl
 | .nilS=>rfl
 | .sl _ _ _=>rfl
 | .fn _=>rfl
 | .lit _=>rfl
 | .ptr _ _ _ _=>rfl
 | .osl _ _ _ _ _=>rfl
 | .rp _=>rfl
 | .junk=>rfl
theorem V.ress_sizes (σ:AS) (ids:List Nat):∀l:List V,V.sizes (V.ress σ ids l)=V.sizes l
 |[]=>rfl
 |x::l=>by simp only [V.ress,V.sizes,V.res_size σ ids x,V.ress_sizes σ ids l]
end
theorem V.ress_map (σ:AS) (ids:List Nat):∀l:List V,V.ress σ ids l=l.map (V.res σ ids)
 |[]=>rfl
 |x::l=>by simp only [V.ress,List.map_cons,V.ress_map σ ids l]
def outOkW (σ:AS) (ids:List Nat):Prop:=ids.Nodup∧∀r∈ids,(∃e g s l,σ.ob[r]?=some ⟨.row e,true,g,.arr s l⟩)∨∃e g s l,σ.ob[r]?=some ⟨.rows false e,true,g,.arr s l⟩∧V.oksW σ ids l
def xa8 (σ:AS) (ids:List Nat) (r:Nat):Ob:=match σ.ob[r]? with
 |some ⟨.rows false e,lv,_,.arr s l⟩=>⟨.rows false e,lv,0,.arr s (V.ress σ ids l)⟩
 |some o=>{o with g:=0}
 |none=>⟨.row 0,true,0,.junk⟩
section
variable {P:Program} {cx:Cx} {E E':Env} {σ:AS} {a:Act} {w w':World} {N:Nat} {Q:Exit→Act→World→Prop} {k:List It} {l:List RO} {n:Nat} {t:List (Nat×V)} {ob:List Ob}
theorem outOkW.live {ids:List Nat} (ho:outOkW σ ids) {r:Nat} (hr:r∈ids):∃o,σ.ob[r]?=some o∧o.live=true:=by
 rcases ho.2 r hr with ⟨e,g,s,l,h⟩|⟨e,g,s,l,h,_⟩
 ·exact⟨_,h,rfl⟩
 ·exact⟨_,h,rfl⟩
theorem yt8 {r g:Nat} (h:(bT σ r g).2.2):(gG σ r g).2.2:=by
 obtain⟨e,lv,s,l,h1,_⟩:=xn4 h;have hg:(match σ.ob[r]? with|some o=>o.g=g|none=>False):=by
  rw [h1]
 simp [gG,h1]
theorem yqz (R:Rel cx E σ a w) {ids:List Nat} (ho:outOkW σ ids) {r g:Nat} {v:Value} (h:RdT E w (.own r g) v) (hg:(r∈ids∧(gG σ r g).2.2)∨(bT σ r g).2.2):RdV (iK cx.W w E ids) w (V.res σ ids (.own r g)) [v]:=by
 have hv1:v.oneCell'=true:=by simp only [RdT,RdV] at h;obtain⟨v',e,h,_⟩:=h;simp at e;subst e;exact h
 have hgW:(gG σ r g).2.2:=by
  rcases hg with hg|hg
  ·exact hg.2
  ·exact yt8 hg
 simp only [V.res];cases hi:ids.idxOf? r with
 |some i=>
  obtain⟨_,e',lv,s',l,xs,q1,_,q2,q3,q4,q6,q7,q8,q9,q10,q11⟩:=xec R h hgW;simp only [RdV];have hir:=List.idxOf?_eq_some_iff.1 hi;refine⟨v,rfl,hv1,?_,fun gc u hu=>?_⟩
  ·obtain⟨h1,h2⟩:=hir
   simp [iK];exact h1
  ·obtain⟨h1,h2,_⟩:=hir
   have:(iK cx.W w E ids).ref[i]?=some (0,v):=by simp [iK,h1,h2,q4]
   rw [this] at hu;injection hu with hu
   injection hu with hu1 hu2
   subst hu1;exact⟨Nat.le_refl _,fun _=>hu2⟩
 |none=>
  have hni:=List.idxOf?_eq_none_iff.1 hi;have hgV:(bT σ r g).2.2:=by
   rcases hg with hg|hg
   ·exact absurd hg.1 hni
   ·exact hg
  obtain⟨e',lv,s',l,xs,q1,q2,q3,q4,q5,q6,q7,q8,q9,q10,q11⟩:=xeb R h hgV;simp only [q2,q3,RdV];refine⟨q5,q6,?_⟩;rcases q9.2 with ⟨rfl,hn⟩|⟨b,cap,cur,rfl,m1,m2,m3,m4,m5,m6⟩
  ·exact⟨none,0,by rw [hn],ω,ω,fun h0=>by omega⟩
  ·refine⟨_,cap,rfl,m3,q8,fun h0=>⟨b,0,xs,rfl,.inr ⟨m1,xcr m2,fun r' hr' g' u' hu' hbu'=>?_⟩,fun _=>m1,xh9 (E0:=iK cx.W w E ids) (fun b hb=> .inl hb) (xb6 R) q5 q10,fun j v hv=>?_⟩⟩
   ·obtain⟨o2,k1,kl⟩:=ho.live hr'
    have hne:r≠r':=by
     rintro rfl
     exact hni hr'
    obtain⟨u2,k2,k3⟩:=R.ob r' _ k1;rw [hu'] at k2;injection k2 with k2
    injection k2 with _ k2
    subst k2;cases lv with
    |true=>exact R.sep r r' _ _ g g' _ u' b hne q1 k1 rfl kl q4 hu' rfl hbu'
    |false=>
     have:=q11 b rfl;simp only [Bool.false_eq_true,if_false] at this;exact k3.live_B kl hbu' this
   ·rw [←m6,List.getElem?_take] at hv
    split at hv
    ·simpa [World.cell?,m2] using hv
    ·cases hv
mutual
theorem xa9 (R:Rel cx E σ a w) {ids:List Nat} (ho:outOkW σ ids):∀{x:V} {cs:List Value},V.okW σ ids x→RdV E w x cs→RdV (iK cx.W w E ids) w (x.res σ ids) cs
 | .int k n,cs,_,h=>by simp only [RdV,V.res] at h⊢;exact h
 | .bool b,cs,_,h=>by simp only [RdV,V.res] at h⊢;exact h
 | .str b,cs,_,h=>by simp only [RdV,V.res] at h⊢;exact h
 | .nilS,cs,_,h=>by simp only [RdV,V.res] at h⊢;exact h
 | .agg l,cs,hp,h=>by simp only [V.okW] at hp;simp only [RdV,V.res] at h⊢;exact xrr R ho hp h
 | .arr s l,cs,hp,h=>by simp only [V.res];exact xb9 (E0:=iK cx.W w E ids) (fun b hb=> .inl hb) (xb6 R) (by simpa [V.okW,V.pure] using hp) h
 | .sl t s l,cs,hp,h=>by simp only [V.res];exact xb9 (E0:=iK cx.W w E ids) (fun b hb=> .inl hb) (xb6 R) rfl h
 | .own r g,cs,hp,h=>by
  have h':=h;simp only [RdV] at h';obtain⟨v,rfl,_⟩:=h';simp only [V.okW] at hp;exact yqz R ho (by simpa only [RdT] using h) (hp.imp (fun h=>⟨by simpa using h.1,h.2⟩) id)
 | .ptr r g p o,cs,hp,h=>by simp [V.okW] at hp
 | .osl r g s a b,cs,hp,h=>by simp [V.okW] at hp
 | .rp x,cs,hp,h=>by
  simp only [RdV,V.res] at h⊢;obtain⟨h1,b,o,xs,h2,h3,h4,h5⟩:=h;exact⟨h1,b,o,xs,h2,.inl h3,xb9 (E0:=iK cx.W w E ids) (fun b hb=> .inl hb) (xb6 R) h1 h4,h5⟩
 | .fn f,cs,hp,h=>by simp only [RdV,V.res] at h⊢;exact h
 | .lit f,cs,hp,h=>by simp only [RdV,V.res] at h⊢;exact h
 | .tup l,cs,hp,h=>by simp only [RdV] at h
 | .clo f l,cs,hp,h=>by simp only [RdV] at h
 | .junk,cs,hp,h=>by simp only [RdV] at h
theorem xrr (R:Rel cx E σ a w) {ids:List Nat} (ho:outOkW σ ids):∀{l:List V} {cs:List Value},V.oksW σ ids l→RdL E w l cs→RdL (iK cx.W w E ids) w (V.ress σ ids l) cs
 |[],xs,_,h=>by simp only [RdL,V.ress] at h⊢;exact h
 |a::l,xs,hp,h=>by
  simp only [V.oksW] at hp;simp only [RdL,V.ress] at h⊢;obtain⟨c,ys,h1,h2,h3⟩:=h;exact⟨c,ys,h1,xa9 R ho hp.1 h2,xrr R ho hp.2 h3⟩
end
mutual
theorem ybl (R:Rel cx E σ a w) {ids:List Nat} (ho:outOkW σ ids):∀{x:V} {v:Value},V.okW σ ids x→RdT E w x v→RdT (iK cx.W w E ids) w (x.res σ ids) v
 | .int k n,v,hp,h=>by have:=xa9 R ho hp (by simpa only [RdT] using h);simpa only [RdT,V.res] using this
 | .bool b,v,hp,h=>by have:=xa9 R ho hp (by simpa only [RdT] using h);simpa only [RdT,V.res] using this
 | .str b,v,hp,h=>by have:=xa9 R ho hp (by simpa only [RdT] using h);simpa only [RdT,V.res] using this
 | .nilS,v,hp,h=>by have:=xa9 R ho hp (by simpa only [RdT] using h);simpa only [RdT,V.res] using this
 | .agg l,v,hp,h=>by
  simp only [RdT] at h;obtain⟨cs,rfl,h⟩:=h;have:=xa9 R ho hp h;simp only [V.res] at this⊢;simp only [RdT];exact⟨cs,rfl,this⟩
 | .arr s l,v,hp,h=>by
  simp only [RdT] at h;obtain⟨cs,rfl,h⟩:=h;have:=xa9 R ho hp h;simp only [V.res] at this⊢;simp only [RdT];exact⟨cs,rfl,this⟩
 | .sl t s l,v,hp,h=>by have:=xa9 R ho hp (by simpa only [RdT] using h);simpa only [RdT,V.res] using this
 | .own r g,v,hp,h=>by
  have:=xa9 R ho hp (by simpa only [RdT] using h);simp only [V.res] at this⊢;cases hi:ids.idxOf? r with
  |some i=>rw [hi] at this;simpa only [RdT] using this
  |none=>rw [hi] at this;simpa only [RdT] using this
 | .ptr r g p o,v,hp,h=>by simp [V.okW] at hp
 | .osl r g s a b,v,hp,h=>by simp [V.okW] at hp
 | .rp x,v,hp,h=>by have:=xa9 R ho hp (by simpa only [RdT] using h);simpa only [RdT,V.res] using this
 | .fn f,v,hp,h=>by have:=xa9 R ho hp (by simpa only [RdT] using h);simpa only [RdT,V.res] using this
 | .lit f,v,hp,h=>by have:=xa9 R ho hp (by simpa only [RdT] using h);simpa only [RdT,V.res] using this
 | .tup l,v,hp,h=>by
  simp only [V.okW] at hp;simp only [RdT,V.res] at h⊢;obtain⟨vs,h1,h2⟩:=h;exact⟨vs,h1,ybo R ho hp h2⟩
 | .clo f l,v,hp,h=>by simp [V.okW] at hp
 | .junk,v,hp,h=>by simp [V.okW] at hp
theorem ybo (R:Rel cx E σ a w) {ids:List Nat} (ho:outOkW σ ids):∀{l:List V} {vs:List Value},V.oksW σ ids l→RdTs E w l vs→RdTs (iK cx.W w E ids) w (V.ress σ ids l) vs
 |[],xs,_,h=>by simp only [RdTs,V.ress] at h⊢;exact h
 |a::l,xs,hp,h=>by
  simp only [V.oksW] at hp;simp only [RdTs,V.ress] at h⊢;obtain⟨c,ys,h1,h2,h3⟩:=h;exact⟨c,ys,h1,ybl R ho hp.1 h2,ybo R ho hp.2 h3⟩
end
theorem Rel.outW {W:World} {S:Nat→Prop} (R:Rel ⟨W,fun _=>False,S⟩ E σ a w) {ids:List Nat} (ho:outOkW σ ids) {x:V} {v:Value} (hx:RdT E w x v) (hp:V.okW σ ids x):ResOk W w S (x.res σ ids) (ids.map (xa8 σ ids)) v:=by
 have hob:∀(r:Nat) (o:Ob),(ids.map (xa8 σ ids))[r]?=some o→∃q,ids[r]?=some q∧∃o1 u,σ.ob[q]?=some o1∧o1.live=true∧o=xa8 σ ids q∧E.ref[q]?=some (o1.g,u)∧(iK W w E ids).ref[r]?=some (0,u)∧OkO ⟨W,fun _=>False,S⟩ E w o1 u:=by
  intro r o hr;simp only [List.getElem?_map,Option.map_eq_some_iff] at hr;obtain⟨q,hq,hr⟩:=hr;obtain⟨o1,h1,hl⟩:=ho.live (List.mem_of_getElem? hq);obtain⟨u,k1,k2⟩:=R.ob q _ h1;exact⟨q,hq,o1,u,h1,hl,hr.symm,k1,by simp [iK,hq,k1],k2⟩
 have hlv:∀q∈ids,(xa8 σ ids q).live=true∧(xa8 σ ids q).g=0:=by
  intro q hq;rcases ho.2 q hq with ⟨e,g,s,l,h⟩|⟨e,g,s,l,h,_⟩
  ·simp [xa8,h]
  ·simp [xa8,h]
 refine⟨iK W w E ids,xrn R,fun o hor=>?_,rfl,rfl,fun i=>?_,by simp [iK],fun r o hr=>?_,fun r r' o o' g g' u u' b h1 h2 h3 h4 h5 h6 h7 h8 h9=>?_,fun b hb=>?_,fun b=>Iff.rfl,fun b hb hlt=>?_,R.keep⟩
 ·obtain⟨r,hr⟩:=List.getElem?_of_mem hor
  obtain⟨q,hq,o1,u,_,_,rfl,_⟩:=hob r o hr;exact hlv q (List.mem_of_getElem? hq)
 ·cases i with
  |zero=>
   simp only [aV,if_true];have:=ybl R ho hp hx;simpa using this
  |succ i=>
   have:aV [(0,x.res σ ids)] (i+1)=.junk:=by simp [aV]
   rw [this];simp only [RdT]
 ·obtain⟨q,hq,o1,u,k1,kl,rfl,k4,k5,k6⟩:=hob r o hr
  have hqm:=List.mem_of_getElem? hq;refine⟨u,by rw [(hlv q hqm).2];exact k5,?_⟩;have hlB:=fun b hb=>k6.live_B (b:=b) kl hb;have hnB:∀b,aP u=some b→¬(iK W w E ids).B b:=by
   intro b hb hB;rcases hB with hB|hB
   ·exact hlB b hb hB
   ·exact hB.2.2 q hqm o1.g u k4 hb
  rcases ho.2 q hqm with ⟨e,g,s,l,h⟩|⟨e,g,s,l,h,hok⟩
  ·rw [k1] at h
   obtain rfl:=Option.some.inj h;simp only [xa8,k1];unfold OkO at k6⊢;obtain⟨s',l',xs,m1,m2,m3,m4,m5,m6,m7,m8⟩:=k6;exact⟨s',l',xs,m1,m2,m3,m4,m5,m6,xh9 (E0:=iK W w E ids) (fun b hb=> .inl hb) (xb6 R) m2 m7,fun b hb=>by simp only [if_true];exact hnB b hb⟩
  ·rw [k1] at h
   obtain rfl:=Option.some.inj h;simp only [xa8,k1];unfold OkO at k6⊢;obtain⟨_,s',l',xs,m1,m3,m4,m5,m6,m7,m8⟩:=k6;injection m1 with c1 c2
   subst c1 c2;have hl:(V.ress σ ids l).length=l.length:=by rw [V.ress_map,List.length_map]
   refine⟨rfl,s,_,xs,rfl,fun x hx=>?_,m4,by rw [hl];exact m5,by rw [hl];exact m6,xrr R ho hok m7,fun b hb=>⟨hnB b hb,(m8 b hb).2⟩⟩;rw [V.ress_map] at hx;obtain⟨y,hy,rfl⟩:=List.mem_map.1 hx;rw [V.res_size];exact m3 y hy
 ·obtain⟨q,hq,o1,u1,k1,kl,rfl,k4,k5,k6⟩:=hob r o h2
  obtain⟨q',hq',o2,u2,m1,ml,rfl,m4,m5,m6⟩:=hob r' o' h3;have h6:(iK W w E ids).ref[r]?=some (g,u):=h6;have h7:(iK W w E ids).ref[r']?=some (g',u'):=h7;rw [k5] at h6;rw [m5] at h7;injection h6 with h6
  injection h6 with _ h6
  injection h7 with h7
  injection h7 with _ h7
  subst h6 h7;refine R.sep q q' _ _ o1.g o2.g u1 u2 b (fun e=>?_) k1 m1 kl ml k4 m4 h8 h9;subst e;exact h1 ((List.getElem?_inj (List.getElem?_eq_some_iff.1 hq).1 ho.1).1 (hq.trans hq'.symm))
 ·rcases hb with hb|hb
  ·exact R.lt b hb
  ·exact hb.2.1
 ·rcases hb with hb|hb
  ·exact R.old b hb hlt
  ·have:=hb.1
   have hlt:b<W.heap.size:=hlt;omega
theorem yt0 {f:FuncId} {W:World} {S:Nat→Prop} {R0:V→List Ob→Prop} {n0:Nat} {m:MC} {rs:List POp} (hc:gU P f=some (n0,m,rs)) (ids:List Nat) {x:V} {c:Prop} (hv:nK ⟨n,t,ob⟩ rs=(x,c)) (hcc:c) (ho:outOkW ⟨n,t,ob⟩ ids) (hp:V.okW ⟨n,t,ob⟩ ids x) (h:R0 (x.res ⟨n,t,ob⟩ ids) (ids.map (xa8 ⟨n,t,ob⟩ ids))):Ev P ⟨W,fun _=>False,S⟩ N (post P f W S R0) (.code .ret::k) ⟨n,t,ob⟩:=by
 refine xgb fun E a w R fn hfn=>?_;unfold gU at hc;rw [hfn] at hc;simp only at hc;split at hc
 ·split at hc
  ·rename_i h1 h2
   simp only [Option.some.injEq,Prod.mk.injEq] at hc;obtain⟨_,_,rfl⟩:=hc;obtain⟨v,k1,k2⟩:=xfk R h2 (by rw [hv];exact hcc);rw [hv] at k2;exact bodyPost_ret k1 R.df ⟨_,_,v,h,rfl,R.outW ho k2 hp⟩
  ·cases hc
 ·cases hc
def xml (σ:AS) (ids:List Nat):List Nat→Prop
 |[]=>True
 |r::l=>l.contains r=false∧(match σ.ob[r]? with|some ⟨.row _,true,_,.arr _ _⟩=>True|some ⟨.rows false _,true,_,.arr _ q⟩=>V.oksW σ ids q|_=>False)∧xml σ ids l
theorem ybn {σ:AS} {ids:List Nat}:∀{l:List Nat},xml σ ids l→l.Nodup∧∀r∈l,(∃e g s l,σ.ob[r]?=some ⟨.row e,true,g,.arr s l⟩)∨∃e g s l,σ.ob[r]?=some ⟨.rows false e,true,g,.arr s l⟩∧V.oksW σ ids l
 |[],_=>⟨List.nodup_nil,fun r hr=>by cases hr⟩
 |r::l,h=>by
  obtain⟨h1,h2,h3⟩:=h;obtain⟨k1,k2⟩:=ybn h3;refine⟨List.nodup_cons.2 ⟨by simpa using h1,k1⟩,fun q hq=>?_⟩;rcases List.mem_cons.1 hq with rfl|hq
  ·split at h2
   ·rename_i e g s l' h'
    exact .inl ⟨e,g,s,l',h'⟩
   ·rename_i e g s l' h'
    exact .inr ⟨e,g,s,l',h',h2⟩
   ·exact h2.elim
  ·exact k2 q hq
theorem xbd {f:FuncId} {W:World} {S:Nat→Prop} {R0:V→List Ob→Prop} {n0:Nat} {m:MC} {rs:List POp} (hc:gU P f=some (n0,m,rs)) (ids:List Nat) (h:(nK ⟨n,t,ob⟩ rs).2∧xml ⟨n,t,ob⟩ ids ids∧V.okW ⟨n,t,ob⟩ ids (nK ⟨n,t,ob⟩ rs).1∧R0 ((nK ⟨n,t,ob⟩ rs).1.res ⟨n,t,ob⟩ ids) (ids.map (xa8 ⟨n,t,ob⟩ ids))):Ev P ⟨W,fun _=>False,S⟩ N (post P f W S R0) (.code .ret::k) ⟨n,t,ob⟩:=by
 obtain⟨h1,h2,h3,h4⟩:=h;exact yt0 hc ids rfl h1 (ybn h2) h3 h4
end
mutual
theorem V.okW_pure (σ:AS) (ids:List Nat):∀x:V,x.pure=true→x.okW σ ids
 | .own r g,h=>by cases h
 | .agg l,h=>by simp only [V.okW];exact V.oksW_pure σ ids l (by simpa only [V.pure] using h)
 | .tup l,h=>by cases h
 | .clo _ l,h=>by cases h
 | .arr s l,h=>by simp only [V.okW];simpa only [V.pure] using h
 | .int _ _,_=>trivial
 | .bool _,_=>trivial
 | .str _,_=>trivial
 | .nilS,_=>trivial
 | .sl _ _ _,_=>trivial
 | .fn _,h=>by cases h
 | .lit _,h=>by cases h
 | .ptr _ _ _ _,h=>by cases h
 | .osl _ _ _ _ _,h=>by cases h
 | .rp _,h=>by cases h
 | .junk,h=>by cases h
theorem V.oksW_pure (σ:AS) (ids:List Nat):∀l:List V,V.pures l=true→V.oksW σ ids l
 |[],_=>trivial
 |x::l,h=>by
  simp only [V.pures,Bool.and_eq_true] at h;exact⟨V.okW_pure σ ids x h.1,V.oksW_pure σ ids l h.2⟩
end
theorem V.oksW_iff {σ:AS} {ids:List Nat}:∀{l:List V},V.oksW σ ids l↔∀x∈l,x.okW σ ids
 |[]=>by simp [V.oksW]
 |x::l=>by simp [V.oksW,V.oksW_iff (l:=l)]
theorem V.oksW_set {σ:AS} {ids:List Nat} {l:List V} (h:V.oksW σ ids l) (j:Nat) {x:V} (hx:x.okW σ ids):V.oksW σ ids (l.set j x):=V.oksW_iff.2 fun y hy=>by
 rcases List.mem_or_eq_of_mem_set hy with hy|rfl
 ·exact V.oksW_iff.1 h y hy
 ·exact hx
theorem V.ress_set (σ:AS) (ids:List Nat) (l:List V) (j:Nat) (x:V):V.ress σ ids (l.set j x)=(V.ress σ ids l).set j (x.res σ ids):=by simp only [V.ress_map,List.map_set]
theorem ysz {α:Type} (σ:AS) (ids:List Nat) (f:α→V) {g:α→V} [h:Lo f g] (l:List α):V.ress σ ids (l.map f)=l.map f:=V.ress_pure _ _ _ (bV f l)
theorem yur (m:Nat) (l:List V) (j:Nat) (x:V):V.shifts m (l.set j x)=(V.shifts m l).set j (x.shift m):=by simp only [V.shifts_map,List.map_set]
theorem ydk {m:Nat}:∀{l:List V} (j:Nat) {x:V},V.scps m l=true→x.scp m=true→V.scps m (l.set j x)=true
 |[],_,_,h,_=>h
 |a::l,0,x,h,hx=>by
  simp only [V.scps,Bool.and_eq_true] at h;simp only [List.set_cons_zero,V.scps,hx,h.2,Bool.and_self]
 |a::l,j+1,x,h,hx=>by
  simp only [V.scps,Bool.and_eq_true] at h;simp only [List.set_cons_succ,V.scps,h.1,ydk j h.2 hx,Bool.and_self]
theorem yug {α:Type} {m r g:Nat} {f g':α→V} [Lo f g'] (l:List α) (j:Nat) (h:r<m):V.scps m ((l.map f).set j (.own r g))=true:=ydk j (V.scps_pure _ _ (bV f l)) (by simp [V.scp,h])
theorem ydj {α:Type} (m:Nat) (f:α→V) {g':α→V} [Lo f g'] (l:List α):V.scps m (l.map f)=true:=V.scps_pure _ _ (bV f l)
theorem yq3 {α:Type} (σ:AS) (ids:List Nat) (f:α→V) {g':α→V} [Lo f g'] (l:List α):V.oksW σ ids (l.map f)=True:=eq_true (V.oksW_pure _ _ _ (bV f l))
theorem xds {P:Program} {cx:Cx} {N:Nat} {Q:Exit→Act→World→Prop} {k:List It} {n:Nat} {t:List (Nat×V)} {ob:List Ob} (r:Nat) {e g s:Nat} {q:List V} (q':List V) (hr:ob[r]?=some ⟨.row e,true,g,.arr s q⟩) (hs:SubVs q q') (hp:V.pures q'=true) (hu:Unif s q') (h:Ev P cx N Q k ⟨n,t,ob.set r ⟨.row e,true,g,.arr s q'⟩⟩):Ev P cx N Q k ⟨n,t,ob⟩:=⟨fun hn E a w R=>h.h hn E a w (R.kind hr rfl rfl fun u ho=>by
 unfold OkO at ho⊢;obtain⟨s',l,xs,h1,h2,h3,h4,h5,h6,h7,h8⟩:=ho;have h1':=h1;injection h1 with e1 e2
 subst e1 e2;have hl:q'.length=q.length:=Go.Proofs.YthmjocibdepahaaGreat.subVs_len hs;exact⟨_,_,xs,rfl,hp,hu,h4,by rw [hl];exact h5,by rw [hl];exact h6,hs.rd h7,h8⟩)⟩
attribute [go_sem] yug ydj yq3 V.ress_set yur Option.map_some xml V.okW V.oksW xa8 ysz List.contains_cons List.contains_nil
end Rdn.Dp
namespace Rdn.Dp
open Go Go.RowKit Rdn
def yH (σ:AS):V→V
 | .own r g=> .sl false (bT σ r g).1 (V.lows (bT σ r g).2.1)
 |x=>x.low
def xas (σ:AS):V→Prop
 | .own r g=>(bT σ r g).2.2
 |x=>x.pure=true
def dp2 (σ:AS):V→V
 | .own r g=> .sl false (gG σ r g).1 ((gG σ r g).2.1.map (yH σ))
 |x=>x.low
def xkl (σ:AS):V→Prop
 | .own r g=>(gG σ r g).2.2∧∀y∈(gG σ r g).2.1,xas σ y
 |x=>x.pure=true
def xA (σ:AS):V→V
 | .agg l=> .agg (l.map (dp2 σ))
 |x=>dp2 σ x
def xdq (σ:AS):V→Prop
 | .agg l=>∀y∈l,xkl σ y
 |x=>xkl σ x
section
variable {cx:Cx} {E:Env} {σ σ':AS} {a:Act} {w:World}
theorem xvo (R:Rel cx E σ a w) {x:V} {cs:List Value} (h:xas σ x) (hr:RdV E w x cs):RdV (lQ w) w (yH σ x) cs:=by
 cases x with
 |own r g=>
  have h':=hr;simp only [RdV] at h';obtain⟨v,rfl,_⟩:=h';exact ybr R (by simpa only [RdT] using hr) h
 |_=>exact xf4 R.lt h hr
theorem xow {x:V} (h:xas σ x):(yH σ x).pure=true:=by
 cases x with
 |own r g=>rfl
 |_=>exact(V.low_pure _).trans h
theorem xox {x:V}:(yH σ x).size=x.size:=by
 cases x with
 |own r g=>rfl
 |_=>exact V.low_size _
theorem xvp (R:Rel cx E σ a w):∀{l:List V} {cs:List Value},(∀y∈l,xas σ y)→RdL E w l cs→RdL (lQ w) w (l.map (yH σ)) cs
 |[],cs,_,h=>by simp only [RdL,List.map_nil] at h⊢;exact h
 |x::l,cs,hk,h=>by
  simp only [RdL,List.map_cons] at h⊢;obtain⟨c,ys,h1,h2,h3⟩:=h;exact⟨c,ys,h1,xvo R (hk x ξ) h2,xvp R (fun y hy=>hk y (by simp [hy])) h3⟩
theorem xvq (R:Rel cx E σ a w) {x:V} {cs:List Value} (h:xkl σ x) (hr:RdV E w x cs):RdV (lQ w) w (dp2 σ x) cs:=by
 cases x with
 |own r g=>
  have h':=hr;simp only [RdV] at h';obtain⟨v,rfl,_⟩:=h';obtain⟨h1,h2⟩:=h;obtain⟨k,e',lv,s',l,xs,q1,q2,q3,q4,q5,q6,q7,q8,q9,q10,q11⟩:=xec R (by simpa only [RdT] using hr) h1;rw [q4] at h2;simp only [dp2];rw [q3,q4];simp only [RdV];have hl:(l.map (yH σ)).length=l.length:=by simp
  refine⟨pures_iff.2 fun y hy=>?_,fun y hy=>?_,?_⟩
  ·obtain⟨z,hz,rfl⟩:=List.mem_map.1 hy
   exact xow (h2 z hz)
  ·obtain⟨z,hz,rfl⟩:=List.mem_map.1 hy
   rw [xox];exact q6 z hz
  rcases q9.2 with ⟨rfl,hn⟩|⟨b,cap,cur,rfl,m1,m2,m3,m4,m5,m6⟩
  ·exact⟨none,0,by rw [hl,hn],ω,ω,fun h0=>by omega⟩
  ·refine⟨_,cap,by rw [hl],ω,ω,fun h0=>⟨b,0,xs,rfl,xcr m2,by simp,xvp R h2 q10,fun j v hv=>?_⟩⟩
   rw [←m6,List.getElem?_take] at hv;split at hv
   ·simpa [World.cell?,m2] using hv
   ·cases hv
 |_=>exact xf4 R.lt h hr
theorem xvr (R:Rel cx E σ a w):∀{l:List V} {cs:List Value},(∀y∈l,xkl σ y)→RdL E w l cs→RdL (lQ w) w (l.map (dp2 σ)) cs
 |[],cs,_,h=>by simp only [RdL,List.map_nil] at h⊢;exact h
 |x::l,cs,hk,h=>by
  simp only [RdL,List.map_cons] at h⊢;obtain⟨c,ys,h1,h2,h3⟩:=h;exact⟨c,ys,h1,xvq R (hk x ξ) h2,xvr R (fun y hy=>hk y (by simp [hy])) h3⟩
theorem yjd (R:Rel cx E σ a w) {x:V} {v:Value} (h:xdq σ x) (hr:RdT E w x v):RdT (lQ w) w (xA σ x) v:=by
 cases x with
 |agg l=>
  simp only [RdT,xA] at hr⊢;obtain⟨cs,h1,h2⟩:=hr;simp only [RdV] at h2⊢;exact⟨cs,h1,xvr R h h2⟩
 |own r g=>
  have:=xvq (x:=.own r g) R h (by simpa only [RdT] using hr);simp only [xA,dp2,RdT] at this⊢;exact this
 |_=>exact xf3 (E:=E) (E0:=lQ w) R.lt h hr
theorem xvs (R:Rel cx E σ a w):∀{l:List V} {vs:List Value},(∀y∈l,xdq σ y)→RdTs E w l vs→RdTs (lQ w) w (l.map (xA σ)) vs
 |[],vs,_,h=>by simp only [RdTs,List.map_nil] at h⊢;exact h
 |x::l,vs,hk,h=>by
  simp only [RdTs,List.map_cons] at h⊢;obtain⟨v,ys,h1,h2,h3⟩:=h;exact⟨v,ys,h1,yjd R (hk x ξ) h2,xvs R (fun y hy=>hk y (by simp [hy])) h3⟩
variable {ids:List Nat}
end
section
variable {P:Program} {cx:Cx} {N:Nat} {Q:Exit→Act→World→Prop} {k:List It} {σ:AS} {l:List RO} {n:Nat} {t:List (Nat×V)} {ob:List Ob} {gd:Option (Nat×Bool)} {f:FuncId} {xs:List X} {ys:List V} {x:V}
theorem ykq {d:Option Nat} (hF:Fnc P f ys fun y obs=>y=x∧obs=[]) (hw:bQ σ gd=some true) (hok:∀y∈xs.map (X.ev σ),xdq σ y) (hy:(xs.map (X.ev σ)).map (xA σ)=ys) (hp:V.pureT x=true) (hq:x.fresh=true)
  (h:EvR P cx N Q k l (σ.put d x)):EvR P cx N Q k (⟨d,gd,.call f xs⟩::l) σ:=by
 subst hy;refine⟨fun hn E a w R ops os hcc=>?_⟩;obtain⟨o,os',rfl,h1,h2⟩:=kX hcc;obtain⟨k1,k2,k3,k4⟩:=kY h1;unfold wpList;rw [if_pos (uH R k2 hw)];refine .inl ?_;obtain⟨aas,hxs,hrun⟩:=wC k1 a;unfold Oper.wp;rw [hrun w,Oper.upon_enter];have hargs:=xvs R hok (yD R hxs);refine(hF w (fun b=>b<w.heap.size) _ (fun _ h=>h) hargs).mono ?_
 rintro e w' ⟨y,obs,v,⟨rfl,rfl⟩,rfl,hres⟩
 obtain⟨E',_,hx',R'⟩:=R.backC (ws:=[.junk]) (fun h=>by simp [V.pures,V.pure] at h) (.inr ⟨hq,fun o ho=>by cases ho⟩) hres;rw [V.shift_pureT _ _ hp] at hx';rw [List.map_nil,List.append_nil] at R';show wpList P ops (lT P cx N Q k) os' (a.put o.dst v) w';rw [show o.dst=d from k3];exact h.h (by rw [AS.put_n];exact hn) E' _ w' (R'.put (fun i hi=>by show i<σ.n;rw [show σ.n=N from hn];exact k4 i hi) hx') ops os' h2
theorem xhv {i:Nat} (hF:Fnc P f ys fun y obs=>y=x∧obs=[]) (h:bQ ⟨n,t,ob⟩ gd=some true∧(∀y∈xs.map (X.ev ⟨n,t,ob⟩),xdq ⟨n,t,ob⟩ y)∧(xs.map (X.ev ⟨n,t,ob⟩)).map (xA ⟨n,t,ob⟩)=ys∧V.pureT x=true∧x.fresh=true∧mD (EvR P cx N Q k) [(),(),(),(),(),(),(),()] l ⟨n,(i,x)::t,ob⟩):EvR P cx N Q k (⟨some i,gd,.call f xs⟩::l) ⟨n,t,ob⟩:=by
 obtain⟨h1,h2,h3,h4,h5,h6⟩:=h;exact ykq hF h1 h2 h3 h4 h5 (dH h6)
variable {t0:List (Nat×V)} {ob0:List Ob} {B:List (List Nat)} {nx:Nat} {lg:List Lg} {j:Nat}
end
end Rdn.Dp
namespace Rdn.Dp
open Go Go.RowKit Rdn
section
variable {cx:Cx} {E:Env} {σ:AS} {a:Act} {w:World}
end
section
variable {P:Program} {cx:Cx} {N:Nat} {Q:Exit→Act→World→Prop} {k:List It} {t:List (Nat×V)} {ob:List Ob} {B:List (List Nat)} {l:List RO}
end
end Rdn.Dp
namespace Rdn.Dp
open Go Go.RowKit Rdn
structure Zb (P:Prop):Type where
 h:P
theorem aA {P Q:Prop} (k:P) (h:Zb P→Q:=by intro zk;(repeat(first|refine And.intro ω ?_|refine And.intro rfl ?_|refine gJ rfl rfl ?_|refine bY ?_|refine dI (by kernel_rfl) ?_|(simp (disch:=omega) only [fJ,Nat.min_eq_left,Nat.min_eq_right,if_pos,if_neg,fF,bW,dU,fH,fM,fK,aN,aJ,dB,dA,dP,dO,Int.toNat_natCast];try simp only [go_sem])|(refine dR rfl ?_ ?_;·(simp<;>omega))|(refine dZ rfl ?_ ?_;·(simp<;>omega))|((first|refine fQ ?_|refine gK rfl ?_|refine mZ rfl ?_|refine jJ aT rfl (by kernel_rfl) ?_|refine jK aT rfl (by kernel_rfl) ?_|refine jL aT rfl (by kernel_rfl) ?_);simp only [go_sem])));exact zk.h):Q:=h ⟨k⟩
theorem qL {P Q:Prop} (k:P) (h:Zb P→Q:=by intro zk;(repeat(first|refine And.intro ω ?_|refine And.intro rfl ?_|refine gJ rfl rfl ?_|refine bY ?_|refine dI (by kernel_rfl) ?_|(simp (disch:=omega) only [fJ,Nat.min_eq_left,Nat.min_eq_right,if_pos,if_neg,fF,bW,dU,fH,fM,fK,aN,aJ,dB,dA,dP,dO,Int.toNat_natCast];try simp only [go_sem])|(refine dR rfl ?_ ?_;·(simp<;>omega))|(refine dZ rfl ?_ ?_;·(simp<;>omega))|((first|refine fQ ?_|refine gK rfl ?_|refine mZ rfl ?_);simp only [go_sem])));exact zk.h):Q:=h ⟨k⟩
theorem bK {P Q:Prop} (k:P) (h:Zb P→Q:=by intro zk;simp only [go_sem];(repeat(first|refine And.intro ω ?_|refine And.intro rfl ?_|(simp (disch:=omega) only [fJ,Nat.min_eq_left,Nat.min_eq_right,if_pos,if_neg,fF,bW,dU,fH,fM,fK,aN,aJ,dB,dA,dP,dO,Int.toNat_natCast];try simp only [go_sem])));exact zk.h):Q:=h ⟨k⟩
theorem fP {P:Prop} (h:P:=by(first|(simp only [go_sem];done)|(simp only [go_sem];((try dsimp only);(repeat' (refine And.intro ?_ ?_))<;>first|with_reducible rfl|(simp only [go_sem];done)|(simp only [go_sem];rfl)|(simp only [];(try simp only [go_sem]);first|done|rfl)|(simp only [go_sem];simp [];done)|(simp [];done)|rfl)))):P:=h
theorem uJ {P R:Prop} (r:R) (h:Zb R→P:=by intro zr;have zh:=zr.h;(first|(simp only [go_sem];done)|(simp only [go_sem];((try dsimp only);(repeat' (refine And.intro ?_ ?_))<;>first|with_reducible rfl|(simp only [go_sem];done)|(simp only [go_sem];rfl)|(simp only [go_sem,zh];done)|(simp only [zh];(try simp only [go_sem]);first|done|rfl)|(simp only [go_sem];simp [zh];done)|(simp [zh];done)|rfl)))):P:=h ⟨r⟩
theorem zna {P R:Prop} (r:R) (h:Zb R→P:=by intro zr;have zh:=zr.h;(first|rfl|(simp only [go_sem];done)|(simp only [go_sem];simp only [zh];done)|(simp only [zh];done)|(simp only [go_sem];simp [zh];done)|(simp [zh];done))):P:=h ⟨r⟩
theorem znb {P R:Prop} (r:R) (h:Zb R→P:=by intro zr;have zh:=zr.h;(simp only [go_sem];(repeat' (refine And.intro ?_ ?_))<;>first|exact trivial|with_reducible rfl|(simp only [zh];done)|(simp only [zh];with_reducible rfl)|(simp [zh];done)|(simp [zh];omega)|(simp only [zh];rfl)|skip)):P:=h ⟨r⟩
theorem aY {P Q R:Prop} (r:R) (k:P) (h:Zb R→Zb P→Q:=by intro zr zk;have zh:=zr.h;(repeat(first|(simp only [zh];try simp only [go_sem])|refine And.intro ω ?_|refine And.intro rfl ?_|refine gJ rfl rfl ?_|refine bY ?_|refine dI (by kernel_rfl) ?_|(simp (disch:=omega) only [fJ,Nat.min_eq_left,Nat.min_eq_right,if_pos,if_neg,fF,bW,dU,fH,fM,fK,aN,aJ,dB,dA,dP,dO,Int.toNat_natCast];try simp only [go_sem])|(refine dR rfl ?_ ?_;·(simp<;>omega))|(refine dZ rfl ?_ ?_;·(simp<;>omega))|((first|refine fQ ?_|refine gK rfl ?_|refine mZ rfl ?_|refine jJ aT rfl (by kernel_rfl) ?_|refine jK aT rfl (by kernel_rfl) ?_|refine jL aT rfl (by kernel_rfl) ?_);simp only [go_sem])));exact zk.h):Q:=h ⟨r⟩ ⟨k⟩
abbrev Qp (d:Nat) (m:POp):RO:=⟨some d,none,.p m⟩
abbrev Qw (d:Nat) (m:MOp):RO:=⟨some d,none,.m m⟩
abbrev Qq (d:Nat) (f:FuncId) (xs:List X):RO:=⟨some d,none,.call f xs⟩
abbrev Q0 (d i:Nat) (m:POp):RO:=⟨some d,some (i,false),.p m⟩
abbrev Q1 (d i:Nat) (m:POp):RO:=⟨some d,some (i,true),.p m⟩
abbrev Qm (d x:Nat):RO:=⟨some d,none,.p (.mov (.t x))⟩
abbrev Qc (d:Nat) (c:V):RO:=⟨some d,none,.p (.mov (.c c))⟩
abbrev Ql (d n x:Nat):RO:=⟨some d,none,.p (.load false n (.t x))⟩
abbrev QL (d n x:Nat):RO:=⟨some d,none,.p (.load true n (.t x))⟩
abbrev Qf (d i j x:Nat):RO:=⟨some d,none,.p (.fieldA i j (.t x))⟩
abbrev Qs (n x y:Nat):RO:=⟨none,none,.m (.store n (.t x) (.t y))⟩
abbrev Qb (d:Nat) (o:BinOp) (x y:Nat):RO:=⟨some d,none,.p (.bin 0 o (.t x) (.t y))⟩
abbrev Qk (d:Nat) (o:BinOp) (x:Nat) (c:Int):RO:=⟨some d,none,.p (.bin 0 o (.t x) (.c (.int .i64 c)))⟩
abbrev QB (d:Nat) (o:BinOp) (x:Nat) (c:V):RO:=⟨some d,none,.p (.bin 0 o (.t x) (.c c))⟩
abbrev Qn (d x:Nat):RO:=⟨some d,none,.p (.len (.t x))⟩
abbrev Qe (d x i:Nat):RO:=⟨some d,none,.p (.ext (.t x) i)⟩
abbrev Qx (d n a b:Nat):RO:=⟨some d,none,.p (.idxA n (.t a) (.t b))⟩
abbrev Qt (d a b:Nat):RO:=⟨some d,none,.p (.pick (.t a) (.c (.bool true)) (.t b))⟩
abbrev Qu (d a b:Nat):RO:=⟨some d,none,.p (.pick (.t a) (.t b) (.c (.bool false)))⟩
abbrev Qr (l:List RO) (c:MC):MC:=.seq (.reg l) c
abbrev Qi (n:Int):X:=.c (.int .i64 n)
theorem aI {P:Program} {f:FuncId} {n:Nat} {m:MC} {rs:List POp} {xs:List V} {R0:V→List Ob→Prop} {p:World→(Nat→Prop)→Prop} (hc:gU P f=some (n,m,rs)) (k:∀W S,p W S) (h:Zb (gU P f=some (n,m,rs))→Zb (∀W S,p W S)→Fnc P f xs R0:=by
 intro zc zk;refine Fnc.intro zc.h ξ fun W S=>?_;simp only [ents,Nat.zero_add,Nat.reduceAdd,Qm,Qc,Ql,QL,Qf,Qs,Qb,Qk,QB,Qn,Qe,Qx,Qt,Qu,Q0,Q1,Qp,Qw,Qq,Qr,Qi];refine aA ?_;exact zk.h W S):Fnc P f xs R0:=h ⟨hc⟩ ⟨k⟩
theorem qX {P:Program} {f:FuncId} {n:Nat} {m:MC} {rs:List POp} {T:TypeId} {d:V} {xs:List V} {R0:V→List Ob→V→Prop} {p:World→(Nat→Prop)→Nat→Prop} (hc:gU P f=some (n,m,rs)) (k:∀W S b0,b0<W.heap.size→p W S b0) (h:Zb (gU P f=some (n,m,rs))→Zb (∀W S b0,b0<W.heap.size→p W S b0)→FncM P f T d xs R0:=by
 intro zc zk;refine FncM.intro zc.h ξ fun W S b0 hb0=>?_;simp only [ents,Nat.zero_add,Nat.reduceAdd,Qm,Qc,Ql,QL,Qf,Qs,Qb,Qk,QB,Qn,Qe,Qx,Qt,Qu,Q0,Q1,Qp,Qw,Qq,Qr,Qi];refine aA ?_;exact zk.h W S b0 hb0):FncM P f T d xs R0:=h ⟨hc⟩ ⟨k⟩
theorem zgA {P:Program} {f:FuncId} {n:Nat} {m:MC} {rs:List POp} {e s:Nat} {l:List V} {xs:List V} {R0:List V→Prop} {p:World→(Nat→Prop)→Value→Prop} (hc:gU P f=some (n,m,rs)) (k:∀W S v0,p W S v0) (h:Zb (gU P f=some (n,m,rs))→Zb (∀W S v0,p W S v0)→FncA P f e s l xs R0:=by
 intro zc zk;refine FncA.intro zc.h ξ fun _ _ W S v0=>?_;simp only [ents,Nat.zero_add,Nat.reduceAdd,Qm,Qc,Ql,QL,Qf,Qs,Qb,Qk,QB,Qn,Qe,Qx,Qt,Qu,Q0,Q1,Qp,Qw,Qq,Qr,Qi];refine aA ?_;exact zk.h W S v0):FncA P f e s l xs R0:=h ⟨hc⟩ ⟨k⟩
theorem FncA.wf {P:Program} {f:FuncId} {e s:Nat} {l xs:List V} {R:List V→Prop} (h:V.wfs xs→FncA P f e s l xs R):FncA P f e s l xs R:=fun w S v0 zs hS hi hU h0 hl ho hr vs hvs=>h hvs.wfs w S v0 zs hS hi hU h0 hl ho hr vs hvs
theorem xtn (l:List Int):(nO l).all V.isInt=true:=by simp [V.isInt,List.all_map]
theorem zra {Q R:Prop} (r:R) (h:Zb R→Q:=by
 intro zr;apply ykl zr.h
 ·(simp only [go_sem];rfl)
 ·(first|exact trivial|(simp;done))
 ·rfl
 ·(first|exact xtn _|(simp [V.isInt];done))
 ·rfl):Q:=h ⟨r⟩
theorem aF {P Q R:Prop} (r:R) (k:P) (h:Zb R→Zb P→Q:=by intro zr zk;(first|refine xdl zr.h ?_|refine xdn zr.h ?_);simp only [go_sem];refine aA ?_;exact zk.h):Q:=h ⟨r⟩ ⟨k⟩
theorem dD {P Q R:Prop} (r:R) (k:P) (h:Zb R→Zb P→Q:=by intro zr zk;(first|refine xoc zr.h ?_|refine xod zr.h ?_);simp only [go_sem];refine aA ?_;exact zk.h):Q:=h ⟨r⟩ ⟨k⟩
theorem mW {P Q R:Prop} (r:R) (k:P) (h:Zb R→Zb P→Q:=by intro zr zk;(first|refine xdm zr.h (by kernel_rfl) rfl ?_|refine xhu zr.h (by kernel_rfl) rfl ?_);simp only [go_sem];refine aA ?_;exact zk.h):Q:=h ⟨r⟩ ⟨k⟩
theorem aO {P Q R:Prop} (r:R) (k:P) (h:Zb R→Zb P→Q:=by
 intro zr zk;(first|apply yvf zr.h rfl|apply ykz zr.h rfl)
 ·(simp only [go_sem];rfl)
 ·rfl
 ·(first|rfl|(simp only [go_sem];done))
 ·(first|rfl|(simp only [go_sem];done)|(simp only [go_sem];rfl))
 ·(first|rfl|(simp only [go_sem];done))
 ·(first|rfl|(simp only [go_sem];done)|(simp only [go_sem];rfl))
 ·(first|rfl|simp [V.pureT,V.pure,V.pures,bV,xjk])
 (first|refine dH (fu:=[(),(),(),(),(),(),(),()]) ?_|refine kD (md:=[]) (fu:=[(),(),(),(),(),(),(),()]) ?_);simp only [go_sem];(repeat(first|refine And.intro ω ?_|refine And.intro rfl ?_|(simp (disch:=omega) only [fJ,Nat.min_eq_left,Nat.min_eq_right,if_pos,if_neg,fF,bW,dU,fH,fM,fK,aN,aJ,dB,dA,dP,dO,Int.toNat_natCast];try simp only [go_sem])));refine aA ?_;exact zk.h):Q:=h ⟨r⟩ ⟨k⟩
theorem zca {P Q R:Prop} (r:R) (k:P) (h:Zb R→Zb P→Q:=by
 intro zr zk;(first|apply ykp zr.h rfl|apply yky zr.h rfl)
 ·(simp only [go_sem];rfl)
 ·rfl
 ·(first|exact .inl rfl|exact .inr ⟨_,rfl⟩)
 ·(first|rfl|exact xtn _|(simp [V.isInt];done))
 ·(first|rfl|(simp only [go_sem];done))
 ·(first|rfl|(simp only [go_sem];done)|(simp only [go_sem];rfl))
 (first|refine dH (fu:=[(),(),(),(),(),(),(),()]) ?_|refine kD (md:=[]) (fu:=[(),(),(),(),(),(),(),()]) ?_);simp only [go_sem];(repeat(first|refine And.intro ω ?_|refine And.intro rfl ?_|(simp (disch:=omega) only [fJ,Nat.min_eq_left,Nat.min_eq_right,if_pos,if_neg,fF,bW,dU,fH,fM,fK,aN,aJ,dB,dA,dP,dO,Int.toNat_natCast];try simp only [go_sem])));refine aA ?_;exact zk.h):Q:=h ⟨r⟩ ⟨k⟩
theorem aU {Q R:Prop} (r:R) (h:Zb R→Q:=by intro zr;refine ret zr.h [] ?_;(first|(simp only [go_sem];done)|(simp only [go_sem];((try dsimp only);(repeat' (refine And.intro ?_ ?_))<;>first|with_reducible rfl|(simp only [go_sem];done)|(simp only [go_sem];rfl)|(simp only [];(try simp only [go_sem]);first|done|rfl)|(simp only [go_sem];simp [];done)|(simp [];done)|rfl)))):Q:=h ⟨r⟩
theorem aX {Q R T:Prop} (r:R) (t:T) (h:Zb R→Zb T→Q:=by intro zq zr;have zh:=zr.h;refine ret zq.h [] ?_;(first|(simp only [go_sem];done)|(simp only [go_sem];((try dsimp only);(repeat' (refine And.intro ?_ ?_))<;>first|with_reducible rfl|(simp only [go_sem];done)|(simp only [go_sem];rfl)|(simp only [go_sem,zh];done)|(simp only [zh];(try simp only [go_sem]);first|done|rfl)|(simp only [go_sem];simp [zh];done)|(simp [zh];done)|rfl)))):Q:=h ⟨r⟩ ⟨t⟩
theorem zrm {Q R T:Prop} (b:T) (r:R) (h:Zb T→Zb R→Q:=by
 intro zb zr;apply xsz zb.h zr.h []
 ·(simp only [go_sem];rfl)
 ·(first|exact trivial|(simp;done))
 ·(first|(simp [vP];done)|exact xrp rfl)
 ·(simp only [go_sem];(first|done|trivial|simp [V.resOk,V.ressOk,bT,V.pures,V.pure,xmu,bV,xjk]))
 ·(first|(simp only [V.res,V.ress,bT,List.idxOf?_nil,List.idxOf?_cons,List.getElem?_cons_zero,List.getElem?_cons_succ];first|rfl|(simp only [go_sem];rfl))|rfl)
 ·(first|(simp only [go_sem];rfl)|rfl)
 ·rfl
 ·(simp only [go_sem];(first|done|rfl))
 ((try dsimp only);(repeat' (refine And.intro ?_ ?_))<;>first|with_reducible rfl|(simp only [go_sem];done)|(simp only [go_sem];rfl)|(simp only [];(try simp only [go_sem]);first|done|rfl)|(simp only [go_sem];simp [];done)|(simp [];done)|rfl)):Q:=h ⟨b⟩ ⟨r⟩
theorem zrn {Q R T U:Prop} (b:T) (q:R) (r:U) (h:Zb T→Zb R→Zb U→Q:=by
 intro zb zq zr;have zh:=zr.h;apply xsz zb.h zq.h []
 ·(simp only [go_sem];rfl)
 ·(first|exact trivial|(simp;done))
 ·(first|(simp [vP];done)|exact xrp rfl)
 ·(simp only [go_sem];(first|done|trivial|simp [V.resOk,V.ressOk,bT,V.pures,V.pure,xmu,bV,xjk]))
 ·(first|(simp only [V.res,V.ress,bT,List.idxOf?_nil,List.idxOf?_cons,List.getElem?_cons_zero,List.getElem?_cons_succ];first|rfl|(simp only [go_sem];rfl))|rfl)
 ·(first|(simp only [go_sem];rfl)|rfl)
 ·rfl
 ·(simp only [go_sem];(first|done|rfl))
 ((try dsimp only);(repeat' (refine And.intro ?_ ?_))<;>first|with_reducible rfl|(simp only [go_sem];done)|(simp only [go_sem];rfl)|(simp only [go_sem,zh];done)|(simp only [zh];(try simp only [go_sem]);first|done|rfl)|(simp only [go_sem];simp [zh];done)|(simp [zh];done)|rfl)):Q:=h ⟨b⟩ ⟨q⟩ ⟨r⟩
section
variable {P:Program} {cx:Cx} {N:Nat} {Q:Exit→Act→World→Prop} {k:List It} {n:Nat} {t:List (Nat×V)} {ob:List Ob} {J:AS→Prop} {n':Nat} {t':List (Nat×V)} {ob':List Ob} {R:Prop}
theorem lX (m:Nat) (j:J ⟨n',t',ob'⟩) (h:n=n'∧m≤ob.length∧ob.take m=ob'∧oU m t'=true∧sK m ob'=true∧Eqs t t'):Ev P cx N Q (.goal J::k) ⟨n,t,ob⟩:=lI m j h.1 h.2.1 h.2.2.1 h.2.2.2.1 h.2.2.2.2.1 h.2.2.2.2.2
theorem nP (j:J ⟨n',t',ob'⟩) (r:R) (h:Zb R→n=n'∧0≤ob.length∧ob.take 0=ob'∧oU 0 t'=true∧sK 0 ob'=true∧Eqs t t':=by
 intro zr;have zh:=zr.h;refine⟨rfl,by simp,?_,by first|rfl|(simp only [go_sem];done),by first|rfl|(simp only [go_sem];done)|(simp only [zh];(try simp only [go_sem]);first|done|rfl),?_⟩
 ·(first|rfl|(simp only [go_sem];done)|(simp only [go_sem];simp only [zh];done)|(simp only [zh];done)|(simp only [go_sem];simp [zh];done)|(simp [zh];done))
 ·(simp only [go_sem];(repeat' (refine And.intro ?_ ?_))<;>first|exact trivial|with_reducible rfl|(simp only [zh];done)|(simp only [zh];with_reducible rfl)|(simp [zh];done)|(simp [zh];omega)|(simp only [zh];rfl)|skip)):Ev P cx N Q (.goal J::k) ⟨n,t,ob⟩:=lX 0 j (h ⟨r⟩)
theorem jH (j:J ⟨n',t',ob'⟩) (r:R) (h:Zb R→n=n'∧1≤ob.length∧ob.take 1=ob'∧oU 1 t'=true∧sK 1 ob'=true∧Eqs t t':=by
 intro zr;have zh:=zr.h;refine⟨rfl,by simp,?_,by first|rfl|(simp only [go_sem];done),by first|rfl|(simp only [go_sem];done)|(simp only [zh];(try simp only [go_sem]);first|done|rfl),?_⟩
 ·(first|rfl|(simp only [go_sem];done)|(simp only [go_sem];simp only [zh];done)|(simp only [zh];done)|(simp only [go_sem];simp [zh];done)|(simp [zh];done))
 ·(simp only [go_sem];(repeat' (refine And.intro ?_ ?_))<;>first|exact trivial|with_reducible rfl|(simp only [zh];done)|(simp only [zh];with_reducible rfl)|(simp [zh];done)|(simp [zh];omega)|(simp only [zh];rfl)|skip)):Ev P cx N Q (.goal J::k) ⟨n,t,ob⟩:=lX 1 j (h ⟨r⟩)
theorem vW (j:J ⟨n',t',ob'⟩) (r:R) (h:Zb R→n=n'∧2≤ob.length∧ob.take 2=ob'∧oU 2 t'=true∧sK 2 ob'=true∧Eqs t t':=by
 intro zr;have zh:=zr.h;refine⟨rfl,by simp,?_,by first|rfl|(simp only [go_sem];done),by first|rfl|(simp only [go_sem];done)|(simp only [zh];(try simp only [go_sem]);first|done|rfl),?_⟩
 ·(first|rfl|(simp only [go_sem];done)|(simp only [go_sem];simp only [zh];done)|(simp only [zh];done)|(simp only [go_sem];simp [zh];done)|(simp [zh];done))
 ·(simp only [go_sem];(repeat' (refine And.intro ?_ ?_))<;>first|exact trivial|with_reducible rfl|(simp only [zh];done)|(simp only [zh];with_reducible rfl)|(simp [zh];done)|(simp [zh];omega)|(simp only [zh];rfl)|skip)):Ev P cx N Q (.goal J::k) ⟨n,t,ob⟩:=lX 2 j (h ⟨r⟩)
theorem zn3 (j:J ⟨n',t',ob'⟩) (r:R) (h:Zb R→n=n'∧3≤ob.length∧ob.take 3=ob'∧oU 3 t'=true∧sK 3 ob'=true∧Eqs t t':=by
 intro zr;have zh:=zr.h;refine⟨rfl,by simp,?_,by first|rfl|(simp only [go_sem];done),by first|rfl|(simp only [go_sem];done)|(simp only [zh];(try simp only [go_sem]);first|done|rfl),?_⟩
 ·(first|rfl|(simp only [go_sem];done)|(simp only [go_sem];simp only [zh];done)|(simp only [zh];done)|(simp only [go_sem];simp [zh];done)|(simp [zh];done))
 ·(simp only [go_sem];(repeat' (refine And.intro ?_ ?_))<;>first|exact trivial|with_reducible rfl|(simp only [zh];done)|(simp only [zh];with_reducible rfl)|(simp [zh];done)|(simp [zh];omega)|(simp only [zh];rfl)|skip)):Ev P cx N Q (.goal J::k) ⟨n,t,ob⟩:=lX 3 j (h ⟨r⟩)
theorem zn4 (j:J ⟨n',t',ob'⟩) (r:R) (h:Zb R→n=n'∧4≤ob.length∧ob.take 4=ob'∧oU 4 t'=true∧sK 4 ob'=true∧Eqs t t':=by
 intro zr;have zh:=zr.h;refine⟨rfl,by simp,?_,by first|rfl|(simp only [go_sem];done),by first|rfl|(simp only [go_sem];done)|(simp only [zh];(try simp only [go_sem]);first|done|rfl),?_⟩
 ·(first|rfl|(simp only [go_sem];done)|(simp only [go_sem];simp only [zh];done)|(simp only [zh];done)|(simp only [go_sem];simp [zh];done)|(simp [zh];done))
 ·(simp only [go_sem];(repeat' (refine And.intro ?_ ?_))<;>first|exact trivial|with_reducible rfl|(simp only [zh];done)|(simp only [zh];with_reducible rfl)|(simp [zh];done)|(simp [zh];omega)|(simp only [zh];rfl)|skip)):Ev P cx N Q (.goal J::k) ⟨n,t,ob⟩:=lX 4 j (h ⟨r⟩)
theorem rQ (j:J ⟨n',t',ob'⟩) (r:R) (h:Zb R→n=n'∧5≤ob.length∧ob.take 5=ob'∧oU 5 t'=true∧sK 5 ob'=true∧Eqs t t':=by
 intro zr;have zh:=zr.h;refine⟨rfl,by simp,?_,by first|rfl|(simp only [go_sem];done),by first|rfl|(simp only [go_sem];done)|(simp only [zh];(try simp only [go_sem]);first|done|rfl),?_⟩
 ·(first|rfl|(simp only [go_sem];done)|(simp only [go_sem];simp only [zh];done)|(simp only [zh];done)|(simp only [go_sem];simp [zh];done)|(simp [zh];done))
 ·(simp only [go_sem];(repeat' (refine And.intro ?_ ?_))<;>first|exact trivial|with_reducible rfl|(simp only [zh];done)|(simp only [zh];with_reducible rfl)|(simp [zh];done)|(simp [zh];omega)|(simp only [zh];rfl)|skip)):Ev P cx N Q (.goal J::k) ⟨n,t,ob⟩:=lX 5 j (h ⟨r⟩)
theorem zn6 (j:J ⟨n',t',ob'⟩) (r:R) (h:Zb R→n=n'∧6≤ob.length∧ob.take 6=ob'∧oU 6 t'=true∧sK 6 ob'=true∧Eqs t t':=by
 intro zr;have zh:=zr.h;refine⟨rfl,by simp,?_,by first|rfl|(simp only [go_sem];done),by first|rfl|(simp only [go_sem];done)|(simp only [zh];(try simp only [go_sem]);first|done|rfl),?_⟩
 ·(first|rfl|(simp only [go_sem];done)|(simp only [go_sem];simp only [zh];done)|(simp only [zh];done)|(simp only [go_sem];simp [zh];done)|(simp [zh];done))
 ·(simp only [go_sem];(repeat' (refine And.intro ?_ ?_))<;>first|exact trivial|with_reducible rfl|(simp only [zh];done)|(simp only [zh];with_reducible rfl)|(simp [zh];done)|(simp [zh];omega)|(simp only [zh];rfl)|skip)):Ev P cx N Q (.goal J::k) ⟨n,t,ob⟩:=lX 6 j (h ⟨r⟩)
theorem zn7 (j:J ⟨n',t',ob'⟩) (r:R) (h:Zb R→n=n'∧7≤ob.length∧ob.take 7=ob'∧oU 7 t'=true∧sK 7 ob'=true∧Eqs t t':=by
 intro zr;have zh:=zr.h;refine⟨rfl,by simp,?_,by first|rfl|(simp only [go_sem];done),by first|rfl|(simp only [go_sem];done)|(simp only [zh];(try simp only [go_sem]);first|done|rfl),?_⟩
 ·(first|rfl|(simp only [go_sem];done)|(simp only [go_sem];simp only [zh];done)|(simp only [zh];done)|(simp only [go_sem];simp [zh];done)|(simp [zh];done))
 ·(simp only [go_sem];(repeat' (refine And.intro ?_ ?_))<;>first|exact trivial|with_reducible rfl|(simp only [zh];done)|(simp only [zh];with_reducible rfl)|(simp [zh];done)|(simp [zh];omega)|(simp only [zh];rfl)|skip)):Ev P cx N Q (.goal J::k) ⟨n,t,ob⟩:=lX 7 j (h ⟨r⟩)
theorem zn8 (j:J ⟨n',t',ob'⟩) (r:R) (h:Zb R→n=n'∧8≤ob.length∧ob.take 8=ob'∧oU 8 t'=true∧sK 8 ob'=true∧Eqs t t':=by
 intro zr;have zh:=zr.h;refine⟨rfl,by simp,?_,by first|rfl|(simp only [go_sem];done),by first|rfl|(simp only [go_sem];done)|(simp only [zh];(try simp only [go_sem]);first|done|rfl),?_⟩
 ·(first|rfl|(simp only [go_sem];done)|(simp only [go_sem];simp only [zh];done)|(simp only [zh];done)|(simp only [go_sem];simp [zh];done)|(simp [zh];done))
 ·(simp only [go_sem];(repeat' (refine And.intro ?_ ?_))<;>first|exact trivial|with_reducible rfl|(simp only [zh];done)|(simp only [zh];with_reducible rfl)|(simp [zh];done)|(simp [zh];omega)|(simp only [zh];rfl)|skip)):Ev P cx N Q (.goal J::k) ⟨n,t,ob⟩:=lX 8 j (h ⟨r⟩)
end
theorem bF {P Q:Prop} (k:P) (h:Zb P→Q:=by intro zk;(repeat(first|refine xaz ?_|refine xav ?_|refine xb0 ?_|refine xax ?_|refine bY ?_|refine dI (by kernel_rfl) ?_|refine xaw rfl ?_|refine xay ?_|refine zX rfl ?_|refine zW rfl ?_|refine dR rfl (by first|exact aN ω|exact dB ω|exact dP ω|exact rZ (aJ ω)|exact rZ (dA ω)) ?_|refine dZ rfl (by first|exact aJ ω|exact dA ω|exact dO ω|exact rY (aN ω)|exact rY (dB ω)) ?_));exact zk.h):Q:=h ⟨k⟩
theorem cZ {P Q:Prop} (k:P) (h:Zb P→Q:=by intro zk;(first|refine xaz ?_|refine xav ?_|refine xb0 ?_|refine xax ?_|refine bY ?_|refine dI (by kernel_rfl) ?_|refine xaw rfl ?_|refine xay ?_|refine zX rfl ?_|refine zW rfl ?_|refine dR rfl (by first|exact aN ω|exact dB ω|exact dP ω|exact rZ (aJ ω)|exact rZ (dA ω)) ?_|refine dZ rfl (by first|exact aJ ω|exact dA ω|exact dO ω|exact rY (aN ω)|exact rY (dB ω)) ?_|((first|refine fQ ?_|(refine xex rfl ?_;refine dH (fu:=[(),(),(),(),(),(),(),()]) ?_)|(refine xco rfl ?_;refine kD (md:=[]) (fu:=[(),(),(),(),(),(),(),()]) ?_)|refine xpc ?_|refine xpb ?_|refine xpf ?_|refine xpe ?_|refine iL (fu:=[(),(),(),(),(),(),(),()]) aT [] 0 rfl (by kernel_rfl) ?_|refine iL (fu:=[(),(),(),(),(),(),(),()]) aT [] 1 rfl (by kernel_rfl) ?_|refine iL (fu:=[(),(),(),(),(),(),(),()]) aT [] 2 rfl (by kernel_rfl) ?_);simp only [go_sem];repeat(first|refine And.intro ω ?_|refine And.intro rfl ?_|(simp (disch:=omega) only [fJ,Nat.min_eq_left,Nat.min_eq_right,if_pos,if_neg,fF,bW,dU,fH,fM,fK,aN,aJ,dB,dA,dP,dO,Int.toNat_natCast];try simp only [go_sem]))));exact zk.h):Q:=h ⟨k⟩
end Rdn.Dp
namespace Go.Proofs.YthmjocibdepahaaGreat
open Go Go.RowKit Rdn Rdn.Dp
def rV {α:Type} (p:α→Bool) (l:List α):Int:=if l.any p=true then(l.findIdx p:Int) else-1
theorem xcp {α:Type} [Inhabited α] {p:α→Bool} {l:List α} {k:Nat} (h:k<l.length) (h0:∀j,j<k→p l[j]! =false) (h1:p l[k]! =true):rV p l=k:=by
 have hk:l[k]! =l[k]:=getElem!_pos l k h;have ha:l.any p=true:=List.any_eq_true.2 ⟨l[k],List.getElem_mem h,by rw [←hk];exact h1⟩;rw [rV,if_pos ha];have:l.findIdx p=k:=by
  refine(List.findIdx_eq h).2 ⟨by rw [←hk];exact h1,fun j hj=>?_⟩;have:=h0 j hj;rw [getElem!_pos l j ω] at this;exact this
 rw [this]
theorem xdv {α:Type} [Inhabited α] {p:α→Bool} {l:List α} (h0:∀j,j<l.length→p l[j]! =false):rV p l=-1:=by
 have ha:¬l.any p=true:=fun h=>by
  obtain⟨x,hx,hp⟩:=List.any_eq_true.1 h;obtain⟨j,hj,rfl⟩:=List.getElem_of_mem hx;have:=h0 j hj;rw [getElem!_pos l j hj,hp] at this;cases this
 rw [rV,if_neg ha]
theorem xey {α:Type} (p:α→Bool) (l:List α):decide (rV p l≥0)=l.any p:=by
 unfold rV;split
 ·rename_i h
  rw [h];simp
 ·rename_i h
  rw [Bool.not_eq_true] at h;rw [h];simp
end Go.Proofs.YthmjocibdepahaaGreat
namespace Rdn.Dp
open Go Go.RowKit Rdn
section
variable {P:Program} {cx:Cx} {N:Nat} {Q:Exit→Act→World→Prop} {k:List It} {σ:AS} {n:Nat} {t:List (Nat×V)} {ob:List Ob}
end
section
variable {P:Program} {cx:Cx} {E E':Env} {a:Act} {w w':World} {N:Nat} {Q:Exit→Act→World→Prop} {k:List It} {l:List RO} {n:Nat} {t:List (Nat×V)} {ob:List Ob}
theorem Rel.frzBox (R:Rel cx E ⟨n,t,ob⟩ a w) {r j g r' g' e' s':Nat} {qb:Bool} {T:TypeId} {q q':List V} (hr:ob[r]?=some ⟨.box qb T,true,g,.agg q⟩) (hj:q[j]?=some (.own r' g')) (hr':ob[r']?=some ⟨.row e',true,g',.arr s' q'⟩):∃E',Rel cx E' ⟨n,t,(ob.set r' ⟨.row e',false,g',.arr s' q'⟩).set r ⟨.box qb T,true,g,.agg (q.set j (.sl true s' q'))⟩⟩ a w:=by
 have hne:r'≠r:=by
  rintro rfl
  rw [hr] at hr';cases hr'
 obtain⟨u,k1,k2⟩:=R.ob r' _ hr';obtain⟨L,R1⟩:=R.freeze (r:=r') hr' k1 (fun b hb=>⟨k2.wrRow (e:=e') rfl hb,trivial⟩);have hup:((⟨n,t,ob⟩:AS).upd r' Ob.freeze)=⟨n,t,ob.set r' ⟨.row e',false,g',.arr s' q'⟩⟩:=by simp [AS.upd,hr',Ob.freeze]
 rw [hup] at R1;have rl':r'<ob.length:=(List.getElem?_eq_some_iff.1 hr').1;have hjl:=(List.getElem?_eq_some_iff.1 hj).1;have hjv:q[j]=.own r' g':=(List.getElem?_eq_some_iff.1 hj).2;refine⟨_,R1.kind (r:=r) (o:=⟨.box qb T,true,g,.agg q⟩) (by rw [List.getElem?_set_ne hne];exact hr) rfl rfl fun u h=>?_⟩;unfold OkO at h⊢;obtain⟨b,cs,h1,h2,h3,h4,h5⟩:=h;simp only [RdV] at h3;obtain⟨ys,c,zs,p1,p2,p3,p4⟩:=h3.part hjl;rw [hjv] at p3;have p3':=p3;simp only [RdV] at p3';obtain⟨v,rfl,_⟩:=p3';have hv:=xmo R1 (r:=r') (g:=g') (v:=v) (by simpa only [RdT] using p3) (by simp [bT,List.getElem?_set_self rl']) (fun o ho=>by
  have ho:(ob.set r' ⟨.row e',false,g',.arr s' q'⟩)[r']?=some o:=ho;rw [List.getElem?_set_self rl'] at ho;cases ho;rfl)
 have e1:(bT ⟨n,t,ob.set r' ⟨.row e',false,g',.arr s' q'⟩⟩ r' g').1=s':=by simp [bT,List.getElem?_set_self rl']
 have e2:(bT ⟨n,t,ob.set r' ⟨.row e',false,g',.arr s' q'⟩⟩ r' g').2.1=q':=by simp [bT,List.getElem?_set_self rl']
 rw [e1,e2] at hv;refine⟨b,cs,h1,h2,?_,h4,h5⟩;simp only [RdV];rw [p1];exact p4 (fun _ _ h=>h) _ _ hv
theorem xw7 (r j r':Nat) {g g' e' s':Nat} {qb:Bool} {T:TypeId} {q q':List V} (hr:ob[r]?=some ⟨.box qb T,true,g,.agg q⟩) (hr':ob[r']?=some ⟨.row e',true,g',.arr s' q'⟩) (hj:q[j]?=some (.own r' g')) (h:Ev P cx N Q k ⟨n,t,(ob.set r' ⟨.row e',false,g',.arr s' q'⟩).set r ⟨.box qb T,true,g,.agg (q.set j (.sl true s' q'))⟩⟩):Ev P cx N Q k ⟨n,t,ob⟩:=by
 refine⟨fun hn E a w R=>?_⟩;obtain⟨E',R'⟩:=R.frzBox hr hj hr';exact h.h hn E' a w R'
end
end Rdn.Dp
