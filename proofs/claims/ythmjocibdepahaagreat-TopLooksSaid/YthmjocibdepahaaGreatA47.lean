import Derived.Test.YthmjocibdepahaaGreatA37
import Derived.Test.YthmjocibdepahaaGreatA45
import Derived.Test.YthmjocibdepahaaGreatA46
import Derived.Test.YthmjocibdepahaaGreatA32
set_option linter.defProp false
set_option linter.unusedSimpArgs false
set_option linter.unusedVariables false
set_option maxHeartbeats 64000000
set_option maxRecDepth 100000
namespace Rdn.Dp
open Go Go.RowKit Rdn
def pV:Nat→AS→V→V
 |k+1,σ,.own r g=> .sl false (gG σ r g).1 ((gG σ r g).2.1.map (pV k σ))
 |k+1,σ,.agg l=> .agg (l.map (pV k σ))
 |_,σ,x=>yH σ x
def xB:Nat→AS→V→Prop
 |k+1,σ,.own r g=>(gG σ r g).2.2∧∀y∈(gG σ r g).2.1,xB k σ y
 |k+1,σ,.agg l=>∀y∈l,xB k σ y
 |_,σ,x=>xas σ x
section
variable {cx:Cx} {E:Env} {σ:AS} {a:Act} {w:World}
theorem ydz {f:V→V} (hf:∀x,(f x).size=x.size):∀l:List V,V.sizes (l.map f)=V.sizes l
 |[]=>rfl
 |x::l=>by simp only [List.map_cons,V.sizes,hf x,ydz hf l]
theorem yjg (k:Nat):∀x:V,(pV k σ x).size=x.size:=by
 induction k with
 |zero=>intro x;unfold pV;exact xox
 |succ k ih=>
  intro x;cases x with
  |own r g=>rfl
  |agg l=>simp only [pV,V.size];exact ydz ih l
  |_=>exact xox
theorem xvt:∀(k:Nat) {x:V},xB k σ x→(pV k σ x).pure=true
 |0,x,h=>by unfold pV;unfold xB at h;exact xow h
 |k+1,x,h=>by
  cases x with
  |own r g=>rfl
  |agg l=>
   simp only [pV,V.pure];refine pures_iff.2 fun y hy=>?_;obtain⟨z,hz,rfl⟩:=List.mem_map.1 hy;exact xvt k (h z hz)
  |_=>exact xow h
theorem xkm (R:Rel cx E σ a w):∀(k:Nat) {x:V} {cs:List Value},xB k σ x→RdV E w x cs→RdV (lQ w) w (pV k σ x) cs
 |0,x,cs,h,hr=>by unfold pV;unfold xB at h;exact xvo R h hr
 |k+1,x,cs,h,hr=>by
  have many:∀{l:List V} {cs:List Value},(∀y∈l,xB k σ y)→RdL E w l cs→RdL (lQ w) w (l.map (pV k σ)) cs:=by
   intro l
   induction l with
   |nil=>intro cs _ h;simp only [RdL,List.map_nil] at h⊢;exact h
   |cons x l ih=>
    intro cs hk h;simp only [RdL,List.map_cons] at h⊢;obtain⟨c,ys,h1,h2,h3⟩:=h;exact⟨c,ys,h1,xkm R k (hk x ξ) h2,ih (fun y hy=>hk y (by simp [hy])) h3⟩
  cases x with
  |own r g=>
   have h':=hr;simp only [RdV] at h';obtain⟨v,rfl,_⟩:=h';obtain⟨h1,h2⟩:=h;obtain⟨k',e',lv,s',l,xs,q1,q2,q3,q4,q5,q6,q7,q8,q9,q10,q11⟩:=xec R (by simpa only [RdT] using hr) h1;rw [q4] at h2;simp only [pV];rw [q3,q4];simp only [RdV];have hl:(l.map (pV k σ)).length=l.length:=by simp
   refine⟨pures_iff.2 fun y hy=>?_,fun y hy=>?_,?_⟩
   ·obtain⟨z,hz,rfl⟩:=List.mem_map.1 hy
    exact xvt k (h2 z hz)
   ·obtain⟨z,hz,rfl⟩:=List.mem_map.1 hy
    rw [yjg];exact q6 z hz
   rcases q9.2 with ⟨rfl,hn⟩|⟨b,cap,cur,rfl,m1,m2,m3,m4,m5,m6⟩
   ·exact⟨none,0,by rw [hl,hn],ω,ω,fun h0=>by omega⟩
   ·refine⟨_,cap,by rw [hl],ω,ω,fun h0=>⟨b,0,xs,rfl,xcr m2,by simp,many h2 q10,fun j v hv=>?_⟩⟩
    rw [←m6,List.getElem?_take] at hv;split at hv
    ·simpa [World.cell?,m2] using hv
    ·cases hv
  |agg l=>
   simp only [pV,RdV] at hr⊢;exact many h hr
  |_=>exact xf4 R.lt h hr
theorem yjf (R:Rel cx E σ a w) (k:Nat) {x:V} {v:Value} (h:xB k σ x) (hr:RdT E w x v):RdT (lQ w) w (pV k σ x) v:=by
 cases k with
 |zero=>
  cases x with
  |own r g=>
   have:=xkm (x:=.own r g) R 0 h (by simpa only [RdT] using hr);simp only [pV,yH,RdT] at this⊢;exact this
  |_=>exact xf3 (E:=E) (E0:=lQ w) R.lt h hr
 |succ k=>
  cases x with
  |agg l=>
   simp only [RdT,pV] at hr⊢;obtain⟨cs,h1,h2⟩:=hr;have:=xkm (x:=.agg l) R (k+1) h h2;simp only [pV] at this;exact⟨cs,h1,this⟩
  |own r g=>
   have:=xkm (x:=.own r g) R (k+1) h (by simpa only [RdT] using hr);simp only [pV,RdT] at this⊢;exact this
  |_=>exact xf3 (E:=E) (E0:=lQ w) R.lt h hr
def dpA (k:Nat) (σ:AS):V→V
 | .clo f l=> .clo f (l.map V.low)
 |x=>pV k σ x
def xcm (k:Nat) (σ:AS):V→Prop
 | .clo f l=>l.all V.pr=true
 |x=>xB k σ x
theorem yje (R:Rel cx E σ a w) (k:Nat) {x:V} {v:Value} (h:xcm k σ x) (hr:RdT E w x v):RdT (lQ w) w (dpA k σ x) v:=by
 cases x with
 |clo f l=>
  simp only [RdT,dpA] at hr⊢;obtain⟨vs,h1,h2⟩:=hr;exact⟨vs,h1.mono fun b hb=>⟨R.lt b hb,rfl⟩,xrv R.lt h h2⟩
 |_=>exact yjf R k h hr
theorem xoy (R:Rel cx E σ a w) (k:Nat):∀{l:List V} {vs:List Value},(∀y∈l,xcm k σ y)→RdTs E w l vs→RdTs (lQ w) w (l.map (dpA k σ)) vs
 |[],vs,_,h=>by simp only [RdTs,List.map_nil] at h⊢;exact h
 |x::l,vs,hk,h=>by
  simp only [RdTs,List.map_cons] at h⊢;obtain⟨v,ys,h1,h2,h3⟩:=h;exact⟨v,ys,h1,yje R k (hk x ξ) h2,xoy R k (fun y hy=>hk y (by simp [hy])) h3⟩
def xk2:V→Bool
 | .clo _ l=>l.all V.pr
 | .fn _=>true
 |x=>x.pure
def dpL:V→V
 | .clo f l=> .clo f (l.map V.low)
 |x=>x.low
theorem yjh {E0:Env} (hB:∀b,E.B b→E0.B b) {x:V} {v:Value} (h:xk2 x=true) (hr:RdT E w x v):RdT E0 w (dpL x) v:=by
 cases x with
 |clo f l=>
  simp only [RdT,dpL] at hr⊢;obtain⟨vs,h1,h2⟩:=hr;exact⟨vs,h1.mono fun b hb=>⟨hB b hb,rfl⟩,xrv hB h h2⟩
 |fn f=>simp only [RdT,dpL,V.low,RdV] at hr⊢;exact hr
 |_=>exact xf3 hB h hr
theorem xvu {E0:Env} (hB:∀b,E.B b→E0.B b):∀{l:List V} {vs:List Value},(∀y∈l,xk2 y=true)→RdTs E w l vs→RdTs E0 w (l.map dpL) vs
 |[],vs,_,h=>by simp only [RdTs,List.map_nil] at h⊢;exact h
 |x::l,vs,hk,h=>by
  simp only [RdTs,List.map_cons] at h⊢;obtain⟨v,ys,h1,h2,h3⟩:=h;exact⟨v,ys,h1,yjh hB (hk x ξ) h2,xvu hB (fun y hy=>hk y (by simp [hy])) h3⟩
end
section
variable {P:Program} {cx:Cx} {N:Nat} {Q:Exit→Act→World→Prop} {k:List It} {l:List RO} {n:Nat} {t:List (Nat×V)} {ob:List Ob} {gd:Option (Nat×Bool)} {f:FuncId} {xs:List X} {ys:List V} {x:V}
theorem xu7 (m:Nat) {i:Nat} (hF:Fnc P f ys fun y obs=>y=x∧obs=[]) (h:bQ ⟨n,t,ob⟩ gd=some true∧(∀y∈xs.map (X.ev ⟨n,t,ob⟩),xcm m ⟨n,t,ob⟩ y)∧(xs.map (X.ev ⟨n,t,ob⟩)).map (dpA m ⟨n,t,ob⟩)=ys∧V.pureT x=true∧x.fresh=true∧mD (EvR P cx N Q k) [(),(),(),(),(),(),(),()] l ⟨n,(i,x)::t,ob⟩):EvR P cx N Q k (⟨some i,gd,.call f xs⟩::l) ⟨n,t,ob⟩:=by
 obtain⟨hw,hok,hy,hp,hq,h⟩:=h;have h:=dH h;subst hy;refine⟨fun hn E a w R ops os hcc=>?_⟩;obtain⟨o,os',rfl,h1,h2⟩:=kX hcc;obtain⟨k1,k2,k3,k4⟩:=kY h1;unfold wpList;rw [if_pos (uH R k2 hw)];refine .inl ?_;obtain⟨aas,hxs,hrun⟩:=wC k1 a;unfold Oper.wp;rw [hrun w,Oper.upon_enter];have hargs:=xoy R m hok (yD R hxs);refine(hF w (fun b=>b<w.heap.size) _ (fun _ h=>h) hargs).mono ?_
 rintro e w' ⟨y,obs,v,⟨rfl,rfl⟩,rfl,hres⟩
 obtain⟨E',_,hx',R'⟩:=R.backC (ws:=[.junk]) (fun h=>by simp [V.pures,V.pure] at h) (.inr ⟨hq,fun o ho=>by cases ho⟩) hres;rw [V.shift_pureT _ _ hp] at hx';rw [List.map_nil,List.append_nil] at R';show wpList P ops (lT P cx N Q k) os' (a.put o.dst v) w';rw [show o.dst=some i from k3];exact h.h hn E' _ w' (R'.put (d:=some i) (fun j hj=>by show j<n;rw [show n=N from hn];exact k4 j hj) hx') ops os' h2
theorem ygw {i:Nat} (hF:Fnc P f ys fun y obs=>y=x∧obs=[]) (h:bQ ⟨n,t,ob⟩ gd=some true∧(∀y∈xs.map (X.ev ⟨n,t,ob⟩),xk2 y=true)∧(xs.map (X.ev ⟨n,t,ob⟩)).map dpL=ys∧V.pureT x=true∧mD (EvR P cx N Q k) [(),(),(),(),(),(),(),()] l ⟨n,(i,x)::t,ob⟩):EvR P cx N Q k (⟨some i,gd,.call f xs⟩::l) ⟨n,t,ob⟩:=by
 obtain⟨hw,hok,hy,hp,h⟩:=h;have h:=dH h;subst hy;refine⟨fun hn E a w R ops os hcc=>?_⟩;obtain⟨o,os',rfl,h1,h2⟩:=kX hcc;obtain⟨k1,k2,k3,k4⟩:=kY h1;unfold wpList;rw [if_pos (uH R k2 hw)];refine .inl ?_;obtain⟨aas,hxs,hrun⟩:=wC k1 a;unfold Oper.wp;rw [hrun w,Oper.upon_enter];have hargs:=xvu (E:=E) (E0:=lY E.B) (fun b hb=>hb) hok (yD R hxs);refine(hF w E.B _ R.lt hargs).mono ?_
 rintro e w' ⟨y,obs,v,⟨rfl,rfl⟩,rfl,hres⟩
 obtain⟨E',_,hx',R'⟩:=R.back (fun b hb=>hb) hres;rw [V.shift_pureT _ _ hp] at hx';rw [List.map_nil,List.append_nil] at R';show wpList P ops (lT P cx N Q k) os' (a.put o.dst v) w';rw [show o.dst=some i from k3];exact h.h hn E' _ w' (R'.put (d:=some i) (fun j hj=>by show j<n;rw [show n=N from hn];exact k4 j hj) hx') ops os' h2
end
end Rdn.Dp
namespace Rdn.Dp
open Go Go.RowKit Rdn
section
variable {P:Program} {cx:Cx} {N:Nat} {Q:Exit→Act→World→Prop} {k:List It} {l:List RO} {n:Nat} {t:List (Nat×V)} {ob:List Ob} {gd:Option (Nat×Bool)} {f:FuncId} {xs:List X} {ys:List V} {x:V} {R0:V→List Ob→Prop}
theorem ygv (m:Nat) {i:Nat} (hF:Fnc P f ys R0) (h:bQ ⟨n,t,ob⟩ gd=some true∧(∀y∈xs.map (X.ev ⟨n,t,ob⟩),xcm m ⟨n,t,ob⟩ y)∧(xs.map (X.ev ⟨n,t,ob⟩)).map (dpA m ⟨n,t,ob⟩)=ys∧∀x os,R0 x os→V.fresh x=true∧(∀o∈os,V.fresh o.v=true)∧EvR P cx N Q k l ⟨n,(i,x.shift ob.length)::t,ob++os.map (Ob.shift ob.length)⟩):EvR P cx N Q k (⟨some i,gd,.call f xs⟩::l) ⟨n,t,ob⟩:=by
 obtain⟨hw,hok,hy,h⟩:=h;subst hy;refine⟨fun hn E a w R ops os hcc=>?_⟩;obtain⟨o,os',rfl,h1,h2⟩:=kX hcc;obtain⟨k1,k2,k3,k4⟩:=kY h1;unfold wpList;rw [if_pos (uH R k2 hw)];refine .inl ?_;obtain⟨aas,hxs,hrun⟩:=wC k1 a;unfold Oper.wp;rw [hrun w,Oper.upon_enter];have hargs:=xoy R m hok (yD R hxs);refine(hF w (fun b=>b<w.heap.size) _ (fun _ h=>h) hargs).mono ?_
 rintro e w' ⟨y,obs,v,hR,rfl,hres⟩
 obtain⟨hq,hqo,h⟩:=h y obs hR;obtain⟨E',_,hx',R'⟩:=R.backC (ws:=[.junk]) (fun h=>by simp [V.pures,V.pure] at h) (.inr ⟨hq,hqo⟩) hres;show wpList P ops (lT P cx N Q k) os' (a.put o.dst v) w';rw [show o.dst=some i from k3];exact h.h hn E' _ w' (R'.put (d:=some i) (fun j hj=>by show j<n;rw [show n=N from hn];exact k4 j hj) hx') ops os' h2
theorem xme {γ:Nat→Option Nat}:∀l m:List V,V.nows γ (l++m)=(V.nows γ l∧V.nows γ m)
 |[],m=>by simp only [List.nil_append,V.nows,true_and]
 |x::l,m=>by simp only [List.cons_append,V.nows,xme l m,and_assoc]
theorem xr5 {γ:Nat→Nat×Nat} (l m:List V):V.mvs γ (l++m)=V.mvs γ l++V.mvs γ m:=by rw [rH,rH,rH,List.map_append]
attribute [go_sem] xme xr5
theorem xi7 (e s:Nat) (hs:0<s) (h:Ev P cx N Q k ⟨n,t,ob++[⟨.row e,true,0,.arr s []⟩]⟩):Ev P cx N Q k ⟨n,t,ob⟩:=by
 refine⟨fun hn E a w R=>?_⟩;obtain⟨L,R'⟩:=R.new (w':=w) (o:=⟨.row e,true,0,.arr s []⟩) (u:=.slice none 0 0) (Below.refl _ _) (fun b hb=>by simp [aP] at hb) rfl rfl (by
  unfold OkO;exact⟨s,[],[],rfl,rfl,by simp [Unif],hs,by simp,World.ownsRow_nil _ _ _ _,by simp [RdL],fun b hb=>by simp [aP] at hb⟩)
 exact h.h hn _ a w R'
end
end Rdn.Dp
namespace Go.Proofs.YthmjocibdepahaaGreat
open Go Go.RowKit Rdn Rdn.Dp
def xzw:=aC 143
def xzx:=aC 71
def xzu:=aC 73
def xqh:=zcs 24
theorem ytf (l:List View) (h:∀v∈l,okView v) (hn:l.length=4):Fnc Tryz.prog 143 [.sl false 8 (l.map (oG false))] (fun x obs=>x=.bool true∧obs=[]):=by
 refine aI xzw fun W S=>?_;refine bI [0,6,7] (fun p:{p:Nat // p≤l.length}=>[(8,.int .i64 p.1)]) (fun _=>[]) (fun p=>l.length-p.1) (⟨0,by simp⟩) 0 ?_;intro J hJ
 rintro⟨k,hk0⟩
 by_cases hlt:k<l.length
 ·obtain⟨⟨h1,h2⟩,⟨h3,h4⟩,⟨h5,h6⟩,⟨h7,h8⟩,⟨h9,h10⟩,⟨h11,h12⟩,h13,h14⟩:=h _ (dJ hlt)
  have fc:=xea l[k]!.regs 8;rw [h14] at fc;refine aA ?_;refine aF (fc) ?_;exact nP (hJ _ (⟨k+1,hlt⟩) ψ) hlt
 obtain rfl:k=l.length:=ω;refine aA ?_;exact aU xzw
theorem ytn (p:PProg) (s:State) (hp:okProg p) (h:Fm p.sizes s):Fnc Tryz.prog 71 [dM false p,qG s] (fun x obs=>x=.bool true∧obs=[]):=by
 have fk:=xoo p hp;have ft:=ytf s.threads h.ok.thr h.ok.len;have hl:=h.rl;have n4:=h.ok.n4;refine qK xzx fk ft fun W S=>?_;refine bI [2,26,27] (fun q:{q:Nat // q≤s.regions.length}=>[(28,.int .i64 q.1)]) (fun _=>[⟨.box false 30,true,0,dM false p⟩,⟨.box false 50,true,0,qG s⟩]) (fun q=>s.regions.length-q.1) (⟨0,by simp⟩) 2 ?_;intro J hJ
 rintro⟨k,hk0⟩
 by_cases hlt:k<s.regions.length
 ·have hr:=h.ok.reg _ (dJ hlt)
  have hz:=h.len k ω;have fc:=xea s.regions[k]! 32;rw [hr.2.2] at fc;refine aA ?_;refine aF (fc) ?_;exact vW (hJ _ (⟨k+1,hlt⟩) ψ) hlt
 obtain rfl:k=s.regions.length:=ω;refine aA ?_;exact aU xzx
def lss (s:State) (n:Nat):List (List Canon):=s.regions++(s.threads.take n).map View.regs
theorem ynh (s:State) {n:Nat} (h:n<s.threads.length):lss s (n+1)=lss s n++[s.threads[n]!.regs]:=by
 unfold lss;rw [List.take_add_one,List.getElem?_eq_getElem h,getElem!_pos s.threads n h,List.map_append,←List.append_assoc];rfl
theorem yni (s:State):lss s 0=s.regions:=by simp [lss]
theorem yt4 (s:State) (h1:1≤s.regions.length) (h2:s.regions.length≤4) (h4:s.threads.length=4):Fnc Tryz.prog 73 [qG s] (fun x obs=>x=.own 0 0∧obs=[⟨.row 66,true,0,.arr 1 ((lss s s.threads.length).map (bD false 4 aS))⟩]):=by
 have hz:=yni s;refine aI xzu fun W S=>?_;refine gY [10,11] (fun q:{q:Nat // q≤s.threads.length}=>[(3,.own 1 q.1),(12,.int .i64 q.1)]) (fun q=>[⟨.box false 50,true,0,qG s⟩,⟨.row 66,true,q.1,.arr 1 ((lss s q.1).map (bD false 4 aS))⟩]) (fun q=>s.threads.length-q.1) (⟨0,by simp⟩) 2 τ ?_ (by first|rfl|(simp only [go_sem];done)|(simp only [go_sem];simp [hz];done)) ξ φ φ (by first|rfl|(simp only [go_sem];done)|(simp only [hz];(try simp only [go_sem]);first|done|rfl)) ?_
 ·(simp only [go_sem];(try simp [hz]);done)
 intro J hJ
 rintro⟨k,hk0⟩
 by_cases hlt:k<s.threads.length
 ·have hs:=ynh s hlt
  have hln:(lss s k).length=s.regions.length+k:=by simp [lss];omega
  refine aA ?_;exact vW (hJ _ (⟨k+1,hlt⟩) ψ) hs
 obtain rfl:k=s.threads.length:=ω;refine aA ?_;refine ret xzu [1] ?_;exact fP
theorem ygu:nX (List.replicate 512 c0):=fun c hc=>by
 rw [List.eq_of_mem_replicate hc];exact⟨δ,δ,δ,δ⟩
theorem yjq (i:Nat) (hi:i<4):lF i emptyL[i]!:=by
 rcases(show i=0∨i=1∨i=2∨i=3 by omega) with rfl|rfl|rfl|rfl<;>exact⟨rfl,rfl⟩
theorem yx7 {v:View} (h:okView v) {r:List Cell} (hr:nX r) (hl:r.length=v.regs.length):okThr 1099511627776 ⟨v.state,r,v.pc,v.count,v.handler,v.saved,v.trap,v.code⟩:=
 ⟨hr,h.state.1,h.state.2,hl.trans h.len,h.pc.1,h.pc.2,h.count.1,h.count.2,h.handler.1,h.handler.2,h.saved.1,h.saved.2,h.trap.1,h.trap.2⟩
attribute [-simprocAttr] List.reduceReplicate
attribute [-go_sem] List.replicate_succ
theorem ysu {α:Type} (a:α):List.replicate 1 a=[a]:=rfl
attribute [go_sem] ycp ysu
abbrev xc3:V:=.agg [.agg [.nilS,.int .u16 0],.agg [.nilS,.nilS],.nilS]
theorem ymd (p:PProg) (l:PLay) (s:State) (hp:okProg p) (hl:jW l p.sizes) (h:Fm p.sizes s):Fnc Tryz.prog 24 [dM false p,dQ false l,qG s] (fun x obs=>(x=.tup [xc3,.bool false]∧obs=[])∨∃m:PMach,okMach p 1099511627776 m∧x=.tup [eG true m,.bool true]∧obs=[]):=by
 have fv:=ytn p s hp h;have fl:=xlb l p.sizes hl;have fs:=yt4 s h.ok.n1 h.ok.n4 h.ok.len;have fe:=xw0;have n4:=h.ok.n4;have hLL:∀x∈lss s s.threads.length,x.length≤32:=fun x hx=>by
  unfold lss at hx;rw [List.take_length] at hx;rcases List.mem_append.1 hx with hx|hx
  ·exact(h.ok.reg x hx).2.1
  ·obtain⟨v,hv,rfl⟩:=List.mem_map.1 hx
   have:=(h.ok.thr v hv).len;omega
 have hLn:(lss s s.threads.length).length≤8:=by
  have:=h.ok.len;simp [lss];omega
 have hall:∀x∈s.regions++s.threads.map View.regs,x∈lss s s.threads.length:=fun x hx=>by
  unfold lss
  rwa [List.take_length]
 generalize lss s s.threads.length=LL at fs hLL hLn hall;refine qK xqh fv fl fun W S=>?_;refine dD (fs) ?_;refine bI [3,4,5,6,37,38] (fun q:{q:Nat // q≤LL.length∧∀i,i<q→∀c∈LL[i]!,mJ p.sizes c}=>[(39,.int .i64 q.1)]) (fun _=>[⟨.box false 30,true,0,dM false p⟩,⟨.box false 33,true,0,dQ false l⟩,⟨.box false 50,true,0,qG s⟩,⟨.box false 40,true,0,xc3⟩,⟨.row 66,true,0,.arr 1 (LL.map (bD false 4 aS))⟩]) (fun q=>LL.length-q.1) (⟨0,by simp,fun i hi=>absurd hi (Nat.not_lt_zero _)⟩) 5 ?_;intro J hJ
 rintro⟨i,hi0,hi1⟩
 by_cases hlt:i<LL.length
 ·have hJ0:=hJ
  have hx:=hLL _ (dJ hlt);refine aA ?_;refine bI [3,4,5,6,37,38,39,43,44] (fun q:{q:Nat // q≤LL[i]!.length∧∀c∈LL[i]!.take q,mJ p.sizes c}=>[(45,.int .i64 q.1)]) (fun _=>[⟨.box false 30,true,0,dM false p⟩,⟨.box false 33,true,0,dQ false l⟩,⟨.box false 50,true,0,qG s⟩,⟨.box false 40,true,0,xc3⟩,⟨.row 66,true,0,.arr 1 (LL.map (bD false 4 aS))⟩]) (fun q=>LL[i]!.length-q.1) (⟨0,by simp,by simp⟩) 5 ?_;intro J hJ
  rintro⟨k,hk0,hk1⟩
  by_cases hlk:k<LL[i]!.length
  ·have fp:=xms p.sizes LL[i]![k]!
   by_cases c:mJ p.sizes LL[i]![k]!
   ·rw [aN c] at fp
    have hS:∀x∈LL[i]!.take (k+1),mJ p.sizes x:=fun x hx=>by
     rw [jG hlk] at hx;rcases List.mem_append.1 hx with hx|hx
     ·exact hk1 x hx
     ·rw [List.mem_singleton] at hx;subst hx;exact c
    refine aA ?_;refine aF (fp) ?_;exact rQ (hJ _ (⟨k+1,hlk,hS⟩) ψ) hlk
   ·rw [aJ c] at fp
    refine aA ?_;refine aF (fp) ?_;refine ret xqh [] ?_;(first|(simp only [go_sem];done)|(simp only [go_sem];(exact .inl ⟨by first|rfl|simp only [go_sem],rfl⟩)))
  ·have hJ:=hJ0
   obtain rfl:k=LL[i]!.length:=ω;have hS:∀j,j<i+1→∀c∈LL[j]!,mJ p.sizes c:=fun j hj=>by
    by_cases e:j=i
    ·subst e;rwa [List.take_length] at hk1
    ·exact hi1 j ω
   refine aA ?_;exact rQ (hJ _ (⟨i+1,hlt,hS⟩) ψ) hlt
 obtain rfl:i=LL.length:=ω;have hP:∀x∈s.regions++s.threads.map View.regs,∀c∈x,mJ p.sizes c:=fun x hx=>by
  obtain⟨j,hj,rfl⟩:=List.getElem_of_mem (hall x hx);have:=hi1 j hj
  rwa [getElem!_pos LL j hj] at this
 have hcr:(List.replicate 512 c0).map bC=List.replicate 512 (.agg [.int .u8 0,.int .u16 0]):=ycq 512;have hbl:=hl.2.1;have hbn:=hl.1.2.2;dsimp only;refine qL ?_;refine iL (fu:=oM) aT [6] 2 rfl κ ?_;simp only [go_sem]
 repeat(first|refine And.intro ω ?_|refine And.intro rfl ?_|refine gJ rfl rfl ?_|refine bY ?_|refine dI κ ?_|(simp (disch:=omega) only [fJ,Nat.min_eq_left,Nat.min_eq_right,if_pos,if_neg,fF,bW,dU,fH,fM,fK,aN,aJ,dB,dA,dP,dO,Int.toNat_natCast];try simp only [go_sem])|(refine dR rfl ?_ ?_;·(simp<;>omega))|(refine dZ rfl ?_ ?_;·(simp<;>omega))|((first|refine fQ ?_|refine gK rfl ?_|refine sQ [6] rfl ?_|refine jJ aT rfl κ ?_|refine jK aT rfl κ ?_|refine jL aT rfl κ ?_);simp only [go_sem]))
 refine aF (fe) ?_;rw [←hcr];refine bI [3,4,5,6,12,68,69] (fun q:{q:Nat×List Cell // q.1≤s.regions.length∧q.2.length=512∧nX q.2}=>[(70,.int .i64 q.1.1)]) (fun q=>[⟨.box false 30,true,0,dM false p⟩,⟨.box false 33,true,0,dQ false l⟩,⟨.box false 50,true,0,qG s⟩,⟨.box false 40,true,0,xc3⟩,⟨.row 66,true,0,.arr 1 (LL.map (bD false 4 aS))⟩,⟨.row 117,true,1,.arr 2 (q.1.2.map bC)⟩,⟨.box false 40,true,1,.agg [dQ true l,.agg [.own 5 1,.sl true 3 (emptyL.map (iM true))],.nilS]⟩]) (fun q=>s.regions.length-q.1.1) (⟨(0,List.replicate 512 c0),by simp,by simp,ygu⟩) 7 ?_;intro J hJ
 rintro⟨⟨r,B⟩,hr0,hB,hBo⟩
 dsimp only at hr0 hB hBo;by_cases hlt:r<s.regions.length
 ·have hJ0:=hJ
  have hz:=h.len r (by have:=h.rl;omega);have h4:=rG hl (k:=r) (by have:=h.rl;omega);have hrb:r<l.bases.length:=by have:=h.rl;omega
  refine aA ?_;refine bI [3,4,5,6,12,13,68,69,70,75,76] (fun q:{q:Nat×List Cell // q.1≤s.regions[r]!.length∧q.2.length=512∧nX q.2}=>[(77,.int .i64 q.1.1)]) (fun q=>[⟨.box false 30,true,0,dM false p⟩,⟨.box false 33,true,0,dQ false l⟩,⟨.box false 50,true,0,qG s⟩,⟨.box false 40,true,0,xc3⟩,⟨.row 66,true,0,.arr 1 (LL.map (bD false 4 aS))⟩,⟨.row 117,true,1,.arr 2 (q.1.2.map bC)⟩,⟨.box false 40,true,1,.agg [dQ true l,.agg [.own 5 1,.sl true 3 (emptyL.map (iM true))],.nilS]⟩]) (fun q=>s.regions[r]!.length-q.1.1) (⟨(0,B),by simp,hB,hBo⟩) 7 ?_;intro J hJ
  rintro⟨⟨k,D⟩,hk0,hD,hDo⟩
  dsimp only at hk0 hD hDo;by_cases hlk:k<s.regions[r]!.length
  ·have fr:=xfe l p.sizes s.regions[r]![k]! hl
   have hrc:=xff l p.sizes (h.reg _ (dJ hlt) _ (dJ hlk)).2;generalize iD l p.sizes s.regions[r]![k]! =z at fr hrc;obtain⟨c,e⟩:=z;dsimp only at fr hrc;have hsn:(D.set (l.bases[r]!+(k:Int)).toNat c).map bC=(D.map bC).set (l.bases[r]!+(k:Int)).toNat (bC c):=List.map_set ..;refine aA ?_;refine aF (fr) ?_;exact zn7 (hJ _ (⟨(k+1,D.set (l.bases[r]!+(k:Int)).toNat c),hlk,by rw [List.length_set];exact hD,xmi hDo _ hrc⟩) ψ) hsn
  ·have hJ:=hJ0
   obtain rfl:k=s.regions[r]!.length:=ω;refine aA ?_;exact zn7 (hJ _ (⟨(r+1,D),hlt,hD,hDo⟩) ψ) hlt
 obtain rfl:r=s.regions.length:=ω;dsimp only;refine aA ?_;refine lZ 6 2 113 8 rfl rfl δ rfl ?_;refine aK ?_;refine bI [3,4,6,12,104,105] (fun q:{q:Nat×List PThr // q.1≤s.threads.length∧q.2.length=q.1∧∀x∈q.2,okThr 1099511627776 x}=>[(106,.int .i64 q.1.1)]) (fun q=>[⟨.box false 30,true,0,dM false p⟩,⟨.box false 33,true,0,dQ false l⟩,⟨.box false 50,true,0,qG s⟩,⟨.box false 40,true,0,xc3⟩,⟨.row 66,true,0,.arr 1 (LL.map (bD false 4 aS))⟩,⟨.row 117,true,1,.arr 2 (B.map bC)⟩,⟨.box false 40,true,1,.agg [dQ true l,.agg [.own 5 1,.sl true 3 (emptyL.map (iM true))],.own 7 q.1.1]⟩,⟨.row 113,true,q.1.1,.arr 8 (q.1.2.map (dW true))⟩]) (fun q=>s.threads.length-q.1.1) (⟨(0,[]),by simp,rfl,by simp⟩) 8 ?_;intro J hJ
 rintro⟨⟨i,T⟩,hi0,hT,hTo⟩
 dsimp only at hi0 hT hTo;have ht4:=h.ok.len;by_cases hlt:i<s.threads.length
 ·have hJ0:=hJ
  have hv:=h.ok.thr _ (dJ hlt);have hvr:=(h.thr _ (dJ hlt)).1;have h8:=hv.len;refine aA ?_;refine lZ 9 1 117 2 rfl rfl δ rfl ?_;refine aK ?_;refine bI [3,4,6,12,19,104,105,106,126,127] (fun q:{q:Nat×List Cell // q.1≤s.threads[i]!.regs.length∧q.2.length=q.1∧nX q.2}=>[(128,.int .i64 q.1.1)]) (fun q=>[⟨.box false 30,true,0,dM false p⟩,⟨.box false 33,true,0,dQ false l⟩,⟨.box false 50,true,0,qG s⟩,⟨.box false 40,true,0,xc3⟩,⟨.row 66,true,0,.arr 1 (LL.map (bD false 4 aS))⟩,⟨.row 117,true,1,.arr 2 (B.map bC)⟩,⟨.box false 40,true,1,.agg [dQ true l,.agg [.own 5 1,.sl true 3 (emptyL.map (iM true))],.own 7 i]⟩,⟨.row 113,true,i,.arr 8 (T.map (dW true))⟩,⟨.box false 68,true,0,oG false s.threads[i]!⟩,⟨.box false 113,true,0,.agg [.int .i64 s.threads[i]!.state,.own 10 q.1.1,.int .i64 s.threads[i]!.pc,.int .i64 s.threads[i]!.count,.int .i64 s.threads[i]!.handler,.int .i64 s.threads[i]!.saved,.int .i64 s.threads[i]!.trap,.int .u16 s.threads[i]!.code]⟩,⟨.row 117,true,q.1.1,.arr 2 (q.1.2.map bC)⟩]) (fun q=>s.threads[i]!.regs.length-q.1.1) (⟨(0,[]),by simp,rfl,by intro x hx;cases hx⟩) 11 ?_;intro J hJ
  rintro⟨⟨k,D⟩,hk0,hD,hDo⟩
  dsimp only at hk0 hD hDo;by_cases hlk:k<s.threads[i]!.regs.length
  ·have fr:=xfe l p.sizes s.threads[i]!.regs[k]! hl
   have hrc:=xff l p.sizes (hvr _ (dJ hlk)).2;generalize iD l p.sizes s.threads[i]!.regs[k]! =z at fr hrc;obtain⟨c,e⟩:=z;dsimp only at fr hrc;have hsn:(D++[c]).map bC=D.map bC++[bC c]:=by simp
   have hok:nX (D++[c]):=fun x hx=>(List.mem_append.1 hx).elim (hDo x) fun e=>by rw [List.mem_singleton] at e;subst e;exact hrc
   refine aA ?_;refine aF (fr) ?_;refine lI 11 (hJ _ (⟨(k+1,D++[c]),hlk,by rw [List.length_append,List.length_singleton,hD],hok⟩) ψ) rfl ξ ?_ φ (by first|rfl|(simp only [go_sem];done)|(simp only [hsn];(try simp only [go_sem]);first|done|rfl)) ?_
   ·exact zna hsn
   ·exact znb hsn
  ·have hJ:=hJ0
   obtain rfl:k=s.threads[i]!.regs.length:=ω;have hth:=yx7 hv hDo hD;have hsn:(T++[(⟨s.threads[i]!.state,D,s.threads[i]!.pc,s.threads[i]!.count,s.threads[i]!.handler,s.threads[i]!.saved,s.threads[i]!.trap,s.threads[i]!.code⟩:PThr)]).map (dW true)=T.map (dW true)++[.agg [.int .i64 s.threads[i]!.state,.sl true 2 (D.map bC),.int .i64 s.threads[i]!.pc,.int .i64 s.threads[i]!.count,.int .i64 s.threads[i]!.handler,.int .i64 s.threads[i]!.saved,.int .i64 s.threads[i]!.trap,.int .u16 s.threads[i]!.code]]:=by simp
   refine aA ?_;exact zn8 (hJ _ (⟨(i+1,T++[⟨s.threads[i]!.state,D,s.threads[i]!.pc,s.threads[i]!.count,s.threads[i]!.handler,s.threads[i]!.saved,s.threads[i]!.trap,s.threads[i]!.code⟩]),hlt,by rw [List.length_append,List.length_singleton,hT],fun x hx=>(List.mem_append.1 hx).elim (hTo x) fun e=>by rw [List.mem_singleton] at e;subst e;exact hth⟩) ψ) hsn
 obtain rfl:i=s.threads.length:=ω;have hM:okMach p 1099511627776 ⟨l,⟨B,emptyL⟩,T⟩:=⟨hp,hl,⟨hB,rfl,hBo,yjq⟩,by show T.length=4;omega,hTo⟩;refine aA ?_;refine ret xqh [] ?_;(first|(simp only [go_sem];done)|(simp only [go_sem];(exact .inr ⟨_,hM,by first|rfl|(simp only [go_sem];rfl)⟩)))
end Go.Proofs.YthmjocibdepahaaGreat
