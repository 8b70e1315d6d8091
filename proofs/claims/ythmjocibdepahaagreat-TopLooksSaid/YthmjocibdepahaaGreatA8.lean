import Derived.Test.YthmjocibdepahaaGreatA7
import Derived.Test.YthmjocibdepahaaGreatA6
set_option linter.unusedSimpArgs false
set_option linter.unusedVariables false
namespace Rdn.Dp
open Go Go.RowKit Rdn
mutual
def V.mv (ρ:Nat→Nat×Nat):V→V
 | .own r g=> .own (ρ r).1 (ρ r).2
 | .ptr r g p o=> .ptr (ρ r).1 (ρ r).2 p o
 | .agg l=> .agg (V.mvs ρ l)
 | .arr s l=> .arr s (V.mvs ρ l)
 | .tup l=> .tup (V.mvs ρ l)
 | .sl t s l=> .sl false s (V.lows l)
 | .int k n=> .int k n
 | .bool b=> .bool b
 | .str s=> .str s
 | .nilS=> .nilS
 | .osl r g s a b=> .osl r g s a b
 | .rp x=> .rp x.low
 | .fn f=> .fn f
 | .lit f=> .lit f
 | .clo f l=> .clo f l
 | .junk=> .junk
def V.mvs (ρ:Nat→Nat×Nat):List V→List V
 |[]=>[]
 |x::l=>x.mv ρ::V.mvs ρ l
end
mutual
def V.now (γ:Nat→Option Nat):V→Prop
 | .own r g=>γ r=some g
 | .ptr r g _ _=>γ r=some g
 | .agg l=>V.nows γ l
 | .arr _ l=>V.nows γ l
 | .tup l=>V.nows γ l
 | .sl _ _ _=>True
 | .int _ _=>True
 | .bool _=>True
 | .str _=>True
 | .nilS=>True
 | .osl _ _ _ _ _=>False
 | .rp _=>True
 | .fn _=>True
 | .lit _=>True
 | .clo _ _=>False
 | .junk=>False
def V.nows (γ:Nat→Option Nat):List V→Prop
 |[]=>True
 |x::l=>x.now γ∧V.nows γ l
end
theorem rH (ρ:Nat→Nat×Nat) (l:List V):V.mvs ρ l=l.map (V.mv ρ):=by
 induction l with
 |nil=>rfl
 |cons a l ih=>simp only [V.mvs,ih,List.map_cons]
theorem nows_iff {γ:Nat→Option Nat} {l:List V}:V.nows γ l↔∀x∈l,x.now γ:=by
 induction l with
 |nil=>simp [V.nows]
 |cons a l ih=>simp [V.nows,ih]
mutual
theorem V.mv_size (ρ:Nat→Nat×Nat):∀x:V,(x.mv ρ).size=x.size
 | .own r g=>rfl
 | .ptr r g p o=>rfl
 | .agg l=>by simp only [V.mv,V.size];exact V.mvs_size ρ l
 | .arr s l=>by simp only [V.mv,V.size,rH,List.length_map]
 | .tup l=>rfl
 | .sl t s l=>rfl
 | .int k n=>rfl
 | .bool b=>rfl
 | .str s=>rfl
 | .nilS=>rfl
 | .osl r g s a b=>rfl
 | .rp x=>rfl
 | .fn f=>rfl
 | .lit f=>rfl
 | .clo f l=>rfl
 | .junk=>rfl
theorem V.mvs_size (ρ:Nat→Nat×Nat):∀l:List V,V.sizes (V.mvs ρ l)=V.sizes l
 |[]=>rfl
 |x::l=>by simp only [V.mvs,V.sizes,V.mv_size ρ x,V.mvs_size ρ l]
end
theorem xag {ρ:Nat→Nat×Nat} {s:Nat} {l:List V} (h:Unif s l):Unif s (V.mvs ρ l):=fun x hx=>by
 rw [rH] at hx;obtain⟨y,hy,rfl⟩:=List.mem_map.1 hx;rw [V.mv_size];exact h y hy
mutual
theorem V.mv_pure (ρ:Nat→Nat×Nat):∀x:V,x.pure=true→x.mv ρ=x.low
 | .own r g,h=>by simp [V.pure] at h
 | .ptr r g p o,h=>by simp [V.pure] at h
 | .agg l,h=>by simp only [V.pure] at h;simp only [V.mv,V.low,V.mvs_pure ρ l h]
 | .arr s l,h=>by simp only [V.pure] at h;simp only [V.mv,V.low,V.mvs_pure ρ l h]
 | .tup l,h=>by simp [V.pure] at h
 | .sl t s l,h=>rfl
 | .int k n,h=>rfl
 | .bool b,h=>rfl
 | .str s,h=>rfl
 | .nilS,h=>rfl
 | .osl r g s a b,h=>by simp [V.pure] at h
 | .rp x,h=>by simp [V.pure] at h
 | .fn f,h=>by simp [V.pure] at h
 | .lit f,h=>by simp [V.pure] at h
 | .clo f l,h=>by simp [V.pure] at h
 | .junk,h=>by simp [V.pure] at h
theorem V.mvs_pure (ρ:Nat→Nat×Nat):∀l:List V,V.pures l=true→V.mvs ρ l=V.lows l
 |[],_=>rfl
 |x::l,h=>by
  simp only [V.pures,Bool.and_eq_true] at h;simp only [V.mvs,V.lows,V.mv_pure ρ x h.1,V.mvs_pure ρ l h.2]
end
mutual
theorem V.now_pure (γ:Nat→Option Nat):∀x:V,x.pure=true→x.now γ
 | .own r g,h=>by simp [V.pure] at h
 | .ptr r g p o,h=>by simp [V.pure] at h
 | .agg l,h=>by simp only [V.pure] at h;simp only [V.now];exact V.nows_pure γ l h
 | .arr s l,h=>by simp only [V.pure] at h;simp only [V.now];exact V.nows_pure γ l h
 | .tup l,h=>by simp [V.pure] at h
 | .sl t s l,h=>trivial
 | .int k n,h=>trivial
 | .bool b,h=>trivial
 | .str s,h=>trivial
 | .nilS,h=>trivial
 | .osl r g s a b,h=>by simp [V.pure] at h
 | .rp x,h=>by simp [V.pure] at h
 | .fn f,h=>by simp [V.pure] at h
 | .lit f,h=>by simp [V.pure] at h
 | .clo f l,h=>by simp [V.pure] at h
 | .junk,h=>by simp [V.pure] at h
theorem V.nows_pure (γ:Nat→Option Nat):∀l:List V,V.pures l=true→V.nows γ l
 |[],_=>trivial
 |x::l,h=>by
  simp only [V.pures,Bool.and_eq_true] at h;exact⟨V.now_pure γ x h.1,V.nows_pure γ l h.2⟩
end
section
variable {E E0:Env} {w:World} {ρ:Nat→Nat×Nat} {γ:Nat→Option Nat}
mutual
theorem xb4 (hB:∀b,E.B b→E0.B b) (hr:∀r g u,γ r=some g→E.ref[r]?=some (g,u)→E0.ref[(ρ r).1]?=some ((ρ r).2,u)) (hγ:∀r g,γ r=some g→∃u,E.ref[r]?=some (g,u)):∀{x:V} {cs:List Value},x.now γ→RdV E w x cs→RdV E0 w (x.mv ρ) cs
 | .own r g,cs,hn,h=>by
  simp only [V.now] at hn;simp only [RdV,V.mv] at h⊢;obtain⟨v,rfl,h1,h2,h3⟩:=h;obtain⟨u,hu⟩:=hγ r g hn;obtain rfl:=(h3 g u hu).2 rfl;have:=hr r g _ hn hu;refine⟨_,rfl,h1,(List.getElem?_eq_some_iff.1 this).1,fun gc u' h=>?_⟩;rw [this] at h;injection h with h
  injection h with e1 e2
  subst e1 e2;exact⟨Nat.le_refl _,fun _=>rfl⟩
 | .ptr r g p o,cs,hn,h=>by
  simp only [V.now] at hn;simp only [RdV,V.mv] at h⊢;obtain⟨v,rfl,h1,h2,h3⟩:=h;obtain⟨u,hu⟩:=hγ r g hn;obtain⟨b,k1,k2⟩:=(h3 g u hu).2 rfl;have:=hr r g _ hn hu;refine⟨_,rfl,h1,(List.getElem?_eq_some_iff.1 this).1,fun gc u' h=>?_⟩;rw [this] at h;injection h with h
  injection h with e1 e2
  subst e1 e2;exact⟨Nat.le_refl _,fun _=>⟨b,k1,k2⟩⟩
 | .agg l,cs,hn,h=>by simp only [V.now] at hn;simp only [RdV,V.mv] at h⊢;exact yR hB hr hγ hn h
 | .arr s l,cs,hn,h=>by simp only [V.now] at hn;simp only [RdV,V.mv] at h⊢;exact⟨yR hB hr hγ hn h.1,xag h.2⟩
 | .tup l,cs,hn,h=>by simp only [RdV] at h
 | .sl t s l,cs,hn,h=>xa2 hB (x:=.sl t s l) rfl h
 | .int k n,cs,hn,h=>by simp only [RdV,V.mv] at h⊢;exact h
 | .bool b,cs,hn,h=>by simp only [RdV,V.mv] at h⊢;exact h
 | .str s,cs,hn,h=>by simp only [RdV,V.mv] at h⊢;exact h
 | .nilS,cs,hn,h=>by simp only [RdV,V.mv] at h⊢;exact h
 | .osl r g s a b,cs,hn,h=>by simp only [V.now] at hn
 | .rp x,cs,hn,h=>by
  simp only [RdV,V.mv] at h⊢;obtain⟨h1,b,o,xs,h2,h3,h4,h5⟩:=h;exact⟨by rw [V.low_pure];exact h1,b,o,xs,h2,hB b h3,xa2 hB h1 h4,h5⟩
 | .fn f,cs,hn,h=>by simp only [RdV,V.mv] at h⊢;exact h
 | .lit f,cs,hn,h=>by simp only [RdV,V.mv] at h⊢;exact h
 | .clo f l,cs,hn,h=>by simp only [V.now] at hn
 | .junk,cs,hn,h=>by simp only [V.now] at hn
theorem yR (hB:∀b,E.B b→E0.B b) (hr:∀r g u,γ r=some g→E.ref[r]?=some (g,u)→E0.ref[(ρ r).1]?=some ((ρ r).2,u)) (hγ:∀r g,γ r=some g→∃u,E.ref[r]?=some (g,u)):∀{l:List V} {cs:List Value},V.nows γ l→RdL E w l cs→RdL E0 w (V.mvs ρ l) cs
 |[],cs,hn,h=>by simp only [RdL,V.mvs] at h⊢;exact h
 |x::l,cs,hn,h=>by
  simp only [V.nows] at hn;simp only [RdL,V.mvs] at h⊢;obtain⟨c,ys,h1,h2,h3⟩:=h;exact⟨c,ys,h1,xb4 hB hr hγ hn.1 h2,yR hB hr hγ hn.2 h3⟩
end
mutual
theorem xmb (hB:∀b,E.B b→E0.B b) (hr:∀r g u,γ r=some g→E.ref[r]?=some (g,u)→E0.ref[(ρ r).1]?=some ((ρ r).2,u)) (hγ:∀r g,γ r=some g→∃u,E.ref[r]?=some (g,u)):∀{x:V} {v:Value},x.now γ→RdT E w x v→RdT E0 w (x.mv ρ) v
 | .own r g,v,hn,h=>by
  have:=xb4 (x:=.own r g) (cs:=[v]) hB hr hγ hn (by simpa only [RdT] using h);simpa only [V.mv,RdT] using this
 | .ptr r g p o,v,hn,h=>by
  have:=xb4 (x:=.ptr r g p o) (cs:=[v]) hB hr hγ hn (by simpa only [RdT] using h);simpa only [V.mv,RdT] using this
 | .agg l,v,hn,h=>by
  simp only [RdT] at h;obtain⟨cs,h1,h2⟩:=h;have:=xb4 hB hr hγ hn h2;simp only [V.mv] at this;simp only [RdT,V.mv];exact⟨cs,h1,this⟩
 | .arr s l,v,hn,h=>by
  simp only [RdT] at h;obtain⟨cs,h1,h2⟩:=h;have:=xb4 hB hr hγ hn h2;simp only [V.mv] at this;simp only [RdT,V.mv];exact⟨cs,h1,this⟩
 | .tup l,v,hn,h=>by
  simp only [V.now] at hn;simp only [RdT,V.mv] at h⊢;obtain⟨vs,h1,h2⟩:=h;exact⟨vs,h1,xr4 hB hr hγ hn h2⟩
 | .sl t s l,v,hn,h=>xf3 hB (x:=.sl t s l) rfl h
 | .int k n,v,hn,h=>by simp only [RdT,RdV,V.mv] at h⊢;exact h
 | .bool b,v,hn,h=>by simp only [RdT,RdV,V.mv] at h⊢;exact h
 | .str s,v,hn,h=>by simp only [RdT,RdV,V.mv] at h⊢;exact h
 | .nilS,v,hn,h=>by simp only [RdT,RdV,V.mv] at h⊢;exact h
 | .osl r g s a b,v,hn,h=>by simp only [V.now] at hn
 | .rp x,v,hn,h=>by
  have:=xb4 (x:=.rp x) (cs:=[v]) hB hr hγ hn (by simpa only [RdT] using h);simpa only [V.mv,RdT] using this
 | .fn f,v,hn,h=>by simp only [RdT,RdV,V.mv] at h⊢;exact h
 | .lit f,v,hn,h=>by simp only [RdT,RdV,V.mv] at h⊢;exact h
 | .clo f l,v,hn,h=>by simp only [V.now] at hn
 | .junk,v,hn,h=>by simp only [V.now] at hn
theorem xr4 (hB:∀b,E.B b→E0.B b) (hr:∀r g u,γ r=some g→E.ref[r]?=some (g,u)→E0.ref[(ρ r).1]?=some ((ρ r).2,u)) (hγ:∀r g,γ r=some g→∃u,E.ref[r]?=some (g,u)):∀{l:List V} {vs:List Value},V.nows γ l→RdTs E w l vs→RdTs E0 w (V.mvs ρ l) vs
 |[],vs,hn,h=>by simp only [RdTs,V.mvs] at h⊢;exact h
 |x::l,vs,hn,h=>by
  simp only [V.nows] at hn;simp only [RdTs,V.mvs] at h⊢;obtain⟨v,ys,h1,h2,h3⟩:=h;exact⟨v,ys,h1,xmb hB hr hγ hn.1 h2,xr4 hB hr hγ hn.2 h3⟩
end
end
def FncI (P:Program) (f:FuncId) (ob:List Ob) (xs:List V) (R:V→List Ob→Prop):Prop:=
 ∀(w:World) (S lent:Nat→Prop) (E:Env) (vs:List Value),vs.length=xs.length→Rel ⟨w,lent,S⟩ E ⟨xs.length,ents 0 xs,ob⟩ ⟨vs.toArray,[]⟩ w→
  Calls P f vs.toArray w fun e w'=>∃x ob' v E',R x ob'∧e=.returned v∧Rel ⟨w,lent,S⟩ E' ⟨1,[(0,x)],ob'⟩ ⟨#[v],[]⟩ w'
def xru (P:Program) (f:FuncId) (W:World) (lent S:Nat→Prop) (R0:V→List Ob→Prop):Exit→Act→World→Prop:=fun e a w=>
 ∀fn,P.funcs[f]?=some fn→bodyPost P fn (fun e w'=>∃x ob' v E',R0 x ob'∧e=.returned v∧Rel ⟨W,lent,S⟩ E' ⟨1,[(0,x)],ob'⟩ ⟨#[v],[]⟩ w') e a w
section
variable {P:Program} {cx:Cx} {E:Env} {σ:AS} {a:Act} {w:World}
theorem FncI.intro {f:FuncId} {n:Nat} {m:MC} {rs:List POp} {ob:List Ob} {xs:List V} {R0:V→List Ob→Prop} (hc:gU P f=some (n,m,rs)) (hx:xs.length≤n)
  (h:∀W lent S,Ev P ⟨W,lent,S⟩ n (xru P f W lent S R0) [.code m] ⟨n,ents 0 xs,ob⟩):FncI P f ob xs R0:=by
 intro W S lent E vs hl R0';have hc':=hc;unfold gU at hc;split at hc
 ·rename_i fn hfn
  split at hc
  ·rename_i c hb
   split at hc
   ·rename_i h1 h2
    simp only [Option.some.injEq,Prod.mk.injEq] at hc;obtain⟨rfl,rfl,rfl⟩:=hc;refine calls_of_wp hfn hb ?_;have R:Rel ⟨W,lent,S⟩ E ⟨fn.ntmps,ents 0 xs,ob⟩ {tmps:=vs.toArray++Array.replicate (fn.ntmps-vs.toArray.size) undef,defers:=[]} W:=by
     refine⟨rfl,by simp [hl];omega,fun j=>?_,R0'.len,R0'.ob,R0'.sep,R0'.lt,R0'.fr,R0'.old,R0'.keep⟩;have h1:=R0'.tm j;by_cases hj:j<vs.length
     ·have e:(vs.toArray++Array.replicate (fn.ntmps-vs.toArray.size) undef).getD j undef=vs.toArray.getD j undef:=by
       have hj':j<vs.toArray.size:=by simpa using hj
       simp only [Array.getD_eq_getD_getElem?,Array.getElem?_append,hj',if_true]
      rw [e];exact h1
     ·have e:aV (ents 0 xs) j=.junk:=by
       rw [xhg,if_pos (Nat.zero_le _),Nat.sub_zero];simp [List.getD_eq_getElem?_getD,List.getElem?_eq_none (show xs.length≤j by omega)]
      show RdT E W (aV (ents 0 xs) j) _;rw [e];simp only [RdT]
    have:=(h W lent S).h rfl _ _ _ R;rw [rP] at this;refine wp_mono (this c h1) fun e a w hq=>?_;cases e with
    |normal=>simp only [lT,oH] at hq;exact hq fn hfn
    |exit id=>simp only [lT,pG] at hq;exact hq fn hfn
    |goto l=>exact hq fn hfn
    |ret=>exact hq fn hfn
    |panic c=>exact hq fn hfn
    |outgrown=>exact hq fn hfn
   ·cases hc
  ·cases hc
 ·cases hc
theorem Rel.lowObs {x:V} {ob:List Ob} {v:Value} (R:Rel cx E ⟨1,[(0,x)],ob⟩ ⟨#[v],[]⟩ w):Rel cx E ⟨1,[(0,x.low)],ob.map Ob.low⟩ ⟨#[v],[]⟩ w:=by
 have ol:∀(r:Nat) (o:Ob),(ob.map Ob.low)[r]?=some o→∃o1,ob[r]?=some o1∧o=o1.low:=by
  intro r o h;rw [List.getElem?_map,Option.map_eq_some_iff] at h;obtain⟨o1,h,rfl⟩:=h;exact⟨o1,h,rfl⟩
 refine⟨R.df,R.n,fun i=>?_,by have:=R.len;simpa using this,fun r o hr=>?_,fun r r' o o' g g' u u' b k1 k2 k3 k4 k5 k6 k7 k8 k9=>?_,R.lt,R.fr,R.old,R.keep⟩
 ·have:=R.tm i
  cases i with
  |zero=>
   simp only [aV,if_true] at this⊢;exact xle this
  |succ i=>
   have e:aV [(0,x.low)] (i+1)=.junk:=by simp [aV]
   show RdT _ _ (aV [(0,x.low)] (i+1)) _;rw [e];simp only [RdT]
 ·obtain⟨o1,h,rfl⟩:=ol r o hr
  obtain⟨u,k1,k2⟩:=R.ob r o1 h;refine⟨u,k1,?_⟩;unfold OkO at k2⊢;simp only [Ob.low];split at k2
  ·rename_i q T hk
   obtain⟨b,cs,m1,m2,m3,m4,m5⟩:=k2;exact⟨b,cs,m1,m2,xbw m3,m4,by rw [V.low_pure];exact m5⟩
  ·obtain⟨s,l,xs,m1,m2,m3,m4,m5,m6,m7,m8⟩:=k2
   have hl:(V.lows l).length=l.length:=by simp [yO]
   exact⟨s,V.lows l,xs,by rw [m1];rfl,by rw [V.lows_pures];exact m2,zG m3,m4,ω,by rw [hl];exact m6,xbx m7,m8⟩
  ·obtain⟨m0,s,l,xs,m1,m3,m4,m5,m6,m7,m8⟩:=k2
   have hl:(V.lows l).length=l.length:=by simp [yO]
   exact⟨m0,s,V.lows l,xs,by rw [m1];rfl,zG m3,m4,ω,by rw [hl];exact m6,xbx m7,m8⟩
 ·obtain⟨o1,q1,rfl⟩:=ol r o k2
  obtain⟨o2,q2,rfl⟩:=ol r' o' k3;exact R.sep r r' o1 o2 g g' u u' b k1 q1 q2 k4 k5 k6 k7 k8 k9
theorem Rel.one {n:Nat} {t:List (Nat×V)} {ob:List Ob} (R:Rel cx E ⟨n,t,ob⟩ a w) {y:V} {v:Value} (k2:RdT E w y v):Rel cx E ⟨1,[(0,y)],ob⟩ ⟨#[v],[]⟩ w:=by
 refine⟨rfl,rfl,fun i=>?_,R.len,R.ob,R.sep,R.lt,R.fr,R.old,R.keep⟩;cases i with
 |zero=>simpa [aV] using k2
 |succ i=>
  show RdT E w (aV [(0,_)] (i+1)) _;simp only [aV];rw [if_neg ω];simp only [RdT]
theorem gZ {f:FuncId} {W:World} {lent S:Nat→Prop} {R0:V→List Ob→Prop} {n0 N n:Nat} {m:MC} {rs:List POp} {k:List It} {t:List (Nat×V)} {ob:List Ob} (q:Nat) (hc:gU P f=some (n0,m,rs)) (h:(nK ⟨n,t,ob⟩ rs).2∧q≤ob.length∧(nK ⟨n,t,ob⟩ rs).1.scp q=true∧sK q (ob.take q)=true∧R0 (nK ⟨n,t,ob⟩ rs).1.low ((ob.take q).map Ob.low)):Ev P ⟨W,lent,S⟩ N (xru P f W lent S R0) (.code .ret::k) ⟨n,t,ob⟩:=by
 obtain⟨hcc,hq,hsy,hso,h⟩:=h;refine xgb fun E a w R fn hfn=>?_;unfold gU at hc;rw [hfn] at hc;simp only at hc;split at hc
 ·split at hc
  ·rename_i h1 h2
   simp only [Option.some.injEq,Prod.mk.injEq] at hc;obtain⟨_,_,rfl⟩:=hc;obtain⟨v,k1,k2⟩:=xfk R h2 hcc;exact bodyPost_ret k1 R.df ⟨_,_,v,_,h,rfl,(((R.one k2).cut q hq (fun i=>by cases i with
    |zero=>simpa [aV] using hsy
    |succ i=>simp [aV,V.scp]) (xnb hso)).lowObs)⟩
  ·cases hc
 ·cases hc
theorem xev {f:FuncId} {W:World} {lent S:Nat→Prop} {R0:V→List Ob→Prop} {n0 N n:Nat} {m:MC} {rs:List POp} {t:List (Nat×V)} {ob:List Ob} (q:Nat) (hc:gU P f=some (n0,m,rs)) (h:(nK ⟨n,t,ob⟩ rs).2∧q≤ob.length∧(nK ⟨n,t,ob⟩ rs).1.scp q=true∧sK q (ob.take q)=true∧R0 (nK ⟨n,t,ob⟩ rs).1.low ((ob.take q).map Ob.low)):Ev P ⟨W,lent,S⟩ N (xru P f W lent S R0) [] ⟨n,t,ob⟩:=by
 obtain⟨hcc,hq,hsy,hso,h⟩:=h;refine⟨fun _ E a w R=>?_⟩;simp only [oH];intro fn hfn;unfold gU at hc;rw [hfn] at hc;simp only at hc;split at hc
 ·split at hc
  ·rename_i h1 h2
   simp only [Option.some.injEq,Prod.mk.injEq] at hc;obtain⟨_,_,rfl⟩:=hc;obtain⟨v,k1,k2⟩:=xfk R h2 hcc
   change bodyPost P _ (fun e w'=>∃x ob' v E',R0 x ob'∧e=.returned v∧Rel ⟨W,lent,S⟩ E' ⟨1,[(0,x)],ob'⟩ ⟨#[v],[]⟩ w') .ret a w
   exact bodyPost_ret k1 R.df ⟨_,_,v,_,h,rfl,(((R.one k2).cut q hq (fun i=>by cases i with
    |zero=>simpa [aV] using hsy
    |succ i=>simp [aV,V.scp]) (xnb hso)).lowObs)⟩
  ·cases hc
 ·cases hc
end
def kF:List Nat→Nat→Nat
 |[],_=>0
 |q::l,r=>if q=r then 0 else kF l r+1
def pX (ob:List Ob) (r:Nat):Option Nat:=match ob[r]? with|some o=>some o.g|none=>none
def sV (σ:AS) (rs:List Nat) (r:Nat):Option Nat:=if rs.contains r=true then pX σ.ob r else none
def xbi:OK→OK
 | .box _ T=> .box true T
 | .row e=> .rows true e
 | .rows _ e=> .rows true e
def vV (σ:AS) (rs:List Nat):List Nat→List Ob
 |[]=>[]
 |r::l=>(match σ.ob[r]? with|some o=>⟨xbi o.k,true,0,o.v.mv fun q=>(kF rs q,0)⟩|none=>⟨.row 0,true,0,.junk⟩)::vV σ rs l
def zB (σ:AS) (rs:List Nat):List Nat→Prop
 |[]=>True
 |r::l=>l.contains r=false∧(match σ.ob[r]? with|some o=>o.live=true∧o.v.now (sV σ rs)|none=>False)∧zB σ rs l
def xb5 (σ:AS):List Nat→Prop
 |[]=>True
 |r::l=>(match σ.ob[r]? with|some ⟨.box _ _,_,_,_⟩=>False|_=>True)∧xb5 σ l
def xgg:OK→Bool
 | .box q _=>!q
 | .row _=>true
 | .rows q _=>!q
def xa0 (σ:AS):List Nat→Bool
 |[]=>true
 |r::l=>(match σ.ob[r]? with|some o=>xgg o.k|none=>false) && xa0 σ l
def yL (σ:AS):List Nat→List Ob→Prop
 |[],_=>True
 |r::l,o::os=>(match σ.ob[r]? with|some o0=>o.k=xbi o0.k|none=>False)∧o.live=true∧yL σ l os
 |_::_,[]=>False
def xh2:OK→Bool
 | .box q _=>!q
 | .row _=>true
 | .rows q _=>!q
def xe8 (γ:Nat→Option Nat):List Ob→Prop
 |[]=>True
 |o::l=>o.v.now γ∧xe8 γ l
def xcx:Nat→List Ob→Prop
 |_,[]=>True
 |0,o::l=>xh2 o.k=true∧xcx 0 l
 |n+1,_::l=>xcx n l
def xM (σ:AS) (r:Nat):Nat:=match σ.ob[r]? with
 |some ⟨.box _ _,_,g,_⟩=>g
 |some ⟨_,_,g,_⟩=>g+1
 |none=>0
def xen (q:Bool):OK→OK
 | .box q' T=> .box q' T
 | .row e=> .rows q e
 | .rows _ e=> .rows q e
def jI (σ:AS) (rs:List Nat) (ob1:List Ob) (p:Nat):Nat×Nat:=match rs[p]? with
 |some r=>(r,xM σ r)
 |none=>(σ.ob.length+(p-rs.length),(pX ob1 p).getD 0)
def mM {α:Type} (f:Nat→α→α) (h:α→α):List Nat→List α→List α→List α
 |[],us,acc=>acc++us.map h
 |r::l,u::us,acc=>mM f h l us (acc.set r (f r u))
 |_::_,[],acc=>acc
def uM (σ:AS) (rs:List Nat) (ob1:List Ob) (r:Nat) (o:Ob):Ob:=match σ.ob[r]? with
 |some o0=>⟨xen (!xa0 σ rs) o0.k,true,xM σ r,o.v.mv (jI σ rs ob1)⟩
 |none=>o
def bkN (σ:AS) (rs:List Nat) (ob1:List Ob) (o:Ob):Ob:=⟨o.k,o.live,o.g,o.v.mv (jI σ rs ob1)⟩
def yC (σ:AS) (rs:List Nat) (ob1:List Ob):List Ob:=mM (uM σ rs ob1) (bkN σ rs ob1) rs ob1 σ.ob
section
variable {α:Type} {f:Nat→α→α} {h:α→α}
theorem xnc:∀{rs:List Nat} {us acc:List α} {i:Nat},i<acc.length→i∉rs→(mM f h rs us acc)[i]?=acc[i]?
 |[],us,acc,i,hi,_=>by rw [mM,List.getElem?_append_left hi]
 |r::l,[],acc,i,hi,_=>rfl
 |r::l,u::us,acc,i,hi,hn=>by
  rw [mM,xnc (by simpa using hi) (fun hm=>hn (by simp [hm])),List.getElem?_set_ne (fun e=>hn (by simp [e]))]
theorem xsf:∀{rs:List Nat} {us acc:List α} {p i:Nat} {u:α},rs.Nodup→i<acc.length→rs[p]?=some i→us[p]?=some u→(mM f h rs us acc)[i]?=some (f i u)
 |[],us,acc,p,i,u,_,hi,hp,_=>by simp at hp
 |r::l,[],acc,p,i,u,_,hi,hp,hu=>by simp at hu
 |r::l,v::us,acc,0,i,u,hd,hi,hp,hu=>by
  simp only [List.getElem?_cons_zero,Option.some.injEq] at hp hu;subst hp hu;rw [mM,xnc (by simpa using hi) (List.nodup_cons.1 hd).1,List.getElem?_set_self hi]
 |r::l,v::us,acc,p+1,i,u,hd,hi,hp,hu=>by
  simp only [List.getElem?_cons_succ] at hp hu;rw [mM];exact xsf (List.nodup_cons.1 hd).2 (by simpa using hi) hp hu
theorem xsh:∀{rs:List Nat} {us acc:List α} {j:Nat},rs.length≤us.length→(mM f h rs us acc)[acc.length+j]?=(us[rs.length+j]?).map h
 |[],us,acc,j,_=>by rw [mM,List.getElem?_append_right ω];simp
 |r::l,[],acc,j,hl=>by simp at hl
 |r::l,u::us,acc,j,hl=>by
  have:=xsh (rs:=l) (us:=us) (acc:=acc.set r (f r u)) (j:=j) (by simpa using hl);rw [List.length_set] at this;rw [mM,this,List.length_cons,show l.length+1+j=(l.length+j)+1 by omega,List.getElem?_cons_succ]
theorem xsg:∀{rs:List Nat} {us acc:List α},rs.length≤us.length→(mM f h rs us acc).length=acc.length+(us.length-rs.length)
 |[],us,acc,_=>by rw [mM];simp
 |r::l,[],acc,hl=>by simp at hl
 |r::l,u::us,acc,hl=>by rw [mM,xsg (by simpa using hl)];simp
end
theorem xmq:∀{rs:List Nat} {r:Nat},r∈rs→rs[kF rs r]?=some r
 |[],r,h=>by simp at h
 |q::l,r,h=>by
  rw [kF];split
  ·rename_i e;subst e;rfl
  ·rename_i e
   rw [List.getElem?_cons_succ];exact xmq ((List.mem_cons.1 h).resolve_left fun h=>e h.symm)
section
variable {σ:AS}
theorem xeg {rs:List Nat}:∀{l:List Nat},zB σ rs l→∀r∈l,∃o:Ob,σ.ob[r]?=some o∧o.live=true∧o.v.now (sV σ rs)
 |[],_,r,hr=>by simp at hr
 |q::l,h,r,hr=>by
  obtain⟨_,h2,h3⟩:=h;rcases List.mem_cons.1 hr with rfl|hr
  ·split at h2
   ·rename_i o ho;exact⟨o,ho,h2⟩
   ·exact h2.elim
  ·exact xeg h3 r hr
theorem xse {rs:List Nat}:∀{l:List Nat},zB σ rs l→l.Nodup
 |[],_=>List.nodup_nil
 |q::l,h=>by
  obtain⟨h1,_,h3⟩:=h;exact List.nodup_cons.2 ⟨fun hm=>(by rw [List.contains_iff_mem.2 hm] at h1;cases h1),xse h3⟩
theorem ydm {rs:List Nat}:∀{l:List Nat} {p r:Nat} {o:Ob},l[p]?=some r→σ.ob[r]?=some o→(vV σ rs l)[p]?=some ⟨xbi o.k,true,0,o.v.mv fun q=>(kF rs q,0)⟩
 |[],p,r,o,h,_=>by simp at h
 |q::l,0,r,o,h,ho=>by
  simp only [List.getElem?_cons_zero,Option.some.injEq] at h;subst h;simp only [vV,ho,List.getElem?_cons_zero]
 |q::l,p+1,r,o,h,ho=>by
  rw [List.getElem?_cons_succ] at h;simp only [vV,List.getElem?_cons_succ];exact ydm h ho
theorem xsd {rs:List Nat}:∀{l:List Nat},(vV σ rs l).length=l.length
 |[]=>rfl
 |q::l=>by simp only [vV,List.length_cons,xsd]
theorem yay:∀{l:List Nat},xb5 σ l→∀r∈l,∀q T lv g v,σ.ob[r]?≠some ⟨.box q T,lv,g,v⟩
 |[],_,r,hr=>by simp at hr
 |p::l,h,r,hr=>by
  obtain⟨h1,h2⟩:=h;rcases List.mem_cons.1 hr with rfl|hr
  ·intro q T lv g v e
   rw [e] at h1;exact h1
  ·exact yay h2 r hr
theorem xwp:∀{l:List Nat},xa0 σ l=true→∀r∈l,∀o:Ob,σ.ob[r]?=some o→xgg o.k=true
 |[],_,r,hr=>by simp at hr
 |p::l,h,r,hr=>by
  simp only [xa0,Bool.and_eq_true] at h;intro o ho;rcases List.mem_cons.1 hr with rfl|hr
  ·have:=h.1
   rw [ho] at this;exact this
  ·exact xwp h.2 r hr o ho
theorem xla:∀{l:List Nat} {os:List Ob},yL σ l os→∀(p r:Nat),l[p]?=some r→∃(o o0:Ob),os[p]?=some o∧σ.ob[r]?=some o0∧o.k=xbi o0.k∧o.live=true
 |[],os,_,p,r,h=>by simp at h
 |q::l,[],h,p,r,_=>h.elim
 |q::l,o::os,h,p,r,hp=>by
  obtain⟨h1,h2,h3⟩:=h;cases p with
  |zero=>
   simp only [List.getElem?_cons_zero,Option.some.injEq] at hp;subst hp;split at h1
   ·rename_i o0 ho;exact⟨o,o0,rfl,ho,h1,h2⟩
   ·exact h1.elim
  |succ p=>
   rw [List.getElem?_cons_succ] at hp;simpa using xla h3 p r hp
theorem xxf:∀{l:List Nat} {os:List Ob},yL σ l os→l.length≤os.length
 |[],os,_=>by simp
 |q::l,[],h=>h.elim
 |q::l,o::os,h=>by have:=xxf h.2.2;simp;omega
theorem yb9 {γ:Nat→Option Nat}:∀{l:List Ob},xe8 γ l→∀o∈l,o.v.now γ
 |[],_,o,h=>by simp at h
 |q::l,h,o,ho=>by
  rcases List.mem_cons.1 ho with rfl|ho
  ·exact h.1
  ·exact yb9 h.2 o ho
theorem xr7:∀{n:Nat} {l:List Ob},xcx n l→∀(p:Nat) (o:Ob),n≤p→l[p]?=some o→xh2 o.k=true
 |n,[],_,p,o,_,h=>by simp at h
 |0,q::l,h,p,o,_,ho=>by
  cases p with
  |zero=>simp only [List.getElem?_cons_zero,Option.some.injEq] at ho;subst ho;exact h.1
  |succ p=>rw [List.getElem?_cons_succ] at ho;exact xr7 (n:=0) h.2 p o (Nat.zero_le _) ho
 |n+1,q::l,h,p,o,hn,ho=>by
  cases p with
  |zero=>omega
  |succ p=>rw [List.getElem?_cons_succ] at ho;exact xr7 (n:=n) h p o ω ho
end
section
variable {P:Program} {cx:Cx} {E:Env} {σ:AS} {a:Act} {w w':World}
theorem OkO.wrF {o:Ob} {u:Value} (h:OkO cx E w o u) (hk:xgg o.k=true) {b:Nat} (hb:aP u=some b):cx.W.heap.size≤b:=by
 unfold OkO at h;split at h
 ·rename_i q T hk'
  obtain⟨b',cs,rfl,h2,_,h4,h5⟩:=h;simp only [aP,Option.some.injEq] at hb;subst hb;rw [hk'] at hk;cases q with
  |true=>simp [xgg] at hk
  |false=>simpa using h4
 ·obtain⟨s,l,xs,h1,h2,h3,h4,h5,h6,h7,h8⟩:=h
  rcases h6.2 with ⟨rfl,_⟩|⟨g,cap,cur,rfl,k1,k2,k3⟩
  ·simp [aP] at hb
  ·simp only [aP,Option.some.injEq] at hb
   subst hb;exact k1
 ·rename_i q e hk'
  obtain⟨h0,s,l,xs,h1,h3,h4,h5,h6,h7,h8⟩:=h;rw [hk'] at hk;cases q with
  |true=>simp [xgg] at hk
  |false=>
   rcases h6.2 with ⟨rfl,_⟩|⟨g,cap,cur,rfl,k1,k2,k3⟩
   ·simp [aP] at hb
   ·simp only [aP,Option.some.injEq] at hb
    subst hb;exact k1
def yM (E:Env) (rs:List Nat) (b:Nat):Prop:=∃r∈rs,∃g u,E.ref[r]?=some (g,u)∧aP u=some b
def ybx (E:Env) (σ:AS) (rs:List Nat) (b:Nat):Prop:=∃r∈rs,∃q T lv g v u,σ.ob[r]?=some ⟨.box q T,lv,g,v⟩∧E.ref[r]?=some (g,u)∧aP u=some b
def xl2 (E:Env) (σ:AS) (w:World) (rs:List Nat) (c:Nat):Prop:=E.B c∨(w.heap.size≤c∧¬∃b,c=w.heap.size+b∧ybx E σ rs b)
def xbs (E:Env) (w:World) (rs:List Nat):Env:=⟨E.B,fun b=>w.heap.size≤b,rs.map fun r=>(0,(E.ref.getD r (0,undef)).2)⟩
theorem xkp {rs:List Nat} {p r g:Nat} {u:Value} (hp:rs[p]?=some r) (hu:E.ref[r]?=some (g,u)):(xbs E w rs).ref[p]?=some (0,u):=by
 simp [xbs,List.getElem?_map,hp,List.getD_eq_getElem?_getD,hu]
theorem xwy {rs:List Nat} {r g:Nat} (h:sV σ rs r=some g):r∈rs∧∃o,σ.ob[r]?=some o∧o.g=g:=by
 unfold sV at h;split at h
 ·rename_i hc
  refine⟨List.contains_iff_mem.1 hc,?_⟩;unfold pX at h;split at h
  ·rename_i o ho
   exact⟨o,ho,Option.some.inj h⟩
  ·cases h
 ·cases h
theorem xwv {ob:List Ob} {r g:Nat} (h:pX ob r=some g):∃o,ob[r]?=some o∧o.g=g:=by
 unfold pX at h;split at h
 ·rename_i o ho
  exact⟨o,ho,Option.some.inj h⟩
 ·cases h
theorem Rel.sendI (R:Rel cx E σ a w) {rs:List Nat} (hs:zB σ rs rs) {xs:List V} {vs:List Value} (hx:RdTs E w xs vs) (hn:V.nows (sV σ rs) xs):
  Rel ⟨w,yM E rs,xl2 E σ w rs⟩ (xbs E w rs) ⟨(V.mvs (fun q=>(kF rs q,0)) xs).length,ents 0 (V.mvs (fun q=>(kF rs q,0)) xs),vV σ rs rs⟩ ⟨vs.toArray,[]⟩ w:=by
 have hr:∀r g u,sV σ rs r=some g→E.ref[r]?=some (g,u)→(xbs E w rs).ref[((fun q=>(kF rs q,0)) r:Nat×Nat).1]?=some (((fun q=>(kF rs q,0)) r:Nat×Nat).2,u):=fun r g u h hu=>xkp (xmq (xwy h).1) hu;have hγ:∀(r g:Nat),sV σ rs r=some g→∃u:Value,E.ref[r]?=some (g,u):=fun r g h=>by
  obtain⟨_,o,ho,rfl⟩:=xwy h;obtain⟨u,h1,_⟩:=R.ob r o ho;exact⟨u,h1⟩
 have hB:∀b,E.B b→(xbs E w rs).B b:=fun _ h=>h;have hall:=xr4 (E0:=xbs E w rs) hB hr hγ hn hx;have hl:=xhc hall;have at_:∀(p:Nat) (o:Ob),(vV σ rs rs)[p]?=some o→∃(r:Nat) (o0:Ob) (u:Value),rs[p]?=some r∧σ.ob[r]?=some o0∧o0.live=true∧o0.v.now (sV σ rs)∧o=⟨xbi o0.k,true,0,o0.v.mv fun q=>(kF rs q,0)⟩∧E.ref[r]?=some (o0.g,u)∧OkO cx E w o0 u:=by
  intro p o h;have hp:p<rs.length:=by
   have:=(List.getElem?_eq_some_iff.1 h).1
   rwa [xsd] at this
  obtain⟨o0,h1,h2,h3⟩:=xeg hs rs[p] (List.getElem_mem hp);have hp':rs[p]?=some rs[p]:=List.getElem?_eq_getElem hp;have:=ydm (rs:=rs) hp' h1;rw [h] at this;obtain⟨u,k1,k2⟩:=R.ob _ _ h1;exact⟨_,o0,u,hp',h1,h2,h3,Option.some.inj this,k1,k2⟩
 refine⟨rfl,by simpa using hl,fun j=>?_,by simp [xbs,xsd],fun p o hp=>?_,fun p p' o o' g g' u u' b hne hp hp' _ _ hu hu' hb hb'=>?_,R.lt,fun b=>Iff.rfl,fun b hb _=> .inl hb,Keep.refl _ _⟩
 ·show RdT _ w (aV (ents 0 (V.mvs (fun q=>(kF rs q,0)) xs)) j) _
  rw [xhg,if_pos (Nat.zero_le _),Nat.sub_zero];have:=xjn j hall;have e:vs.toArray.getD j undef=vs.getD j undef:=by simp [Array.getD_eq_getD_getElem?,List.getD_eq_getElem?_getD]
  rw [e];exact this
 ·obtain⟨r,o0,u,h1,h2,h3,h4,rfl,h6,h7⟩:=at_ p o hp
  have hm:r∈rs:=List.mem_of_getElem? h1;refine⟨u,xkp h1 h6,?_⟩;have hnB:=fun b hb=>h7.live_B (b:=b) h3 hb;have hln:∀b,aP u=some b→yM E rs b:=fun b hb=>⟨r,hm,_,u,h6,hb⟩;unfold OkO at h7⊢;split at h7
  ·rename_i q T hk
   obtain⟨b,cs,rfl,m2,m3,m4,m5⟩:=h7;rw [hk];obtain⟨kk,lv,g,v⟩:=o0;dsimp only at hk;subst hk;have key:yM E rs b∧¬xl2 E σ w rs (w.heap.size+b):=by
    refine⟨hln b rfl,fun hf=>?_⟩;rcases hf with hf|⟨_,hf⟩
    ·have h8:w.heap.size+b<w.heap.size:=R.lt _ hf
     omega
    ·exact hf ⟨b,rfl,r,hm,q,T,lv,g,v,_,h2,h6,rfl⟩
   exact⟨b,cs,rfl,m2,xb4 (E0:=xbs E w rs) hB hr hγ h4 m3,by rw [if_pos rfl];exact key,by rw [if_pos rfl];exact hnB b rfl⟩
  ·rename_i e hk
   obtain⟨s,l,ys,m1,m2,m3,m4,m5,m6,m7,m8⟩:=h7;rw [hk];have hlen:(V.mvs (fun q=>(kF rs q,0)) l).length=l.length:=by rw [rH,List.length_map]
   rw [m1] at h4;refine⟨rfl,s,V.mvs (fun q=>(kF rs q,0)) l,ys,by dsimp only;rw [m1];rfl,xag m3,m4,ω,by rw [hlen];exact xb7 m6 fun _ _=>Nat.zero_le _,yR (E0:=xbs E w rs) hB hr hγ (by simpa only [V.now] using h4) m7,fun b hb=>⟨hnB b hb,.inr (hln b hb)⟩⟩
  ·rename_i q e hk
   obtain⟨m0,s,l,ys,m1,m3,m4,m5,m6,m7,m8⟩:=h7;rw [hk];have hlen:(V.mvs (fun q=>(kF rs q,0)) l).length=l.length:=by rw [rH,List.length_map]
   rw [m1] at h4;refine⟨rfl,s,V.mvs (fun q=>(kF rs q,0)) l,ys,by dsimp only;rw [m1];rfl,xag m3,m4,ω,by rw [hlen];exact xb7 m6 fun _ _=>Nat.zero_le _,yR (E0:=xbs E w rs) hB hr hγ (by simpa only [V.now] using h4) m7,fun b hb=>⟨hnB b hb,.inr (hln b hb)⟩⟩
 ·obtain⟨r,o0,v,h1,h2,h3,h4,rfl,h6,h7⟩:=at_ p o hp
  obtain⟨r',o0',v',k1,k2,k3,k4,rfl,k6,k7⟩:=at_ p' o' hp';rw [xkp h1 h6] at hu;rw [xkp k1 k6] at hu';simp only [Option.some.injEq,Prod.mk.injEq] at hu hu';obtain⟨_,rfl⟩:=hu;obtain⟨_,rfl⟩:=hu';refine R.sep r r' o0 o0' _ _ _ _ b (fun e=>hne ?_) h2 k2 h3 k3 h6 k6 hb hb';subst e;have q1:=(List.getElem?_eq_some_iff.1 h1).1;exact(List.getElem?_inj q1 (xse hs)).1 (h1.trans k1.symm)
theorem Rel.backI (R:Rel cx E σ a w) {r0:Nat} {rl:List Nat} {rs:List Nat} (hrs:rs=r0::rl) (hs:zB σ rs rs) (hv:xb5 σ rl) {E':Env} {x:V} {ob1:List Ob} {v:Value} (R':Rel ⟨w,yM E rs,xl2 E σ w rs⟩ E' ⟨1,[(0,x)],ob1⟩ ⟨#[v],[]⟩ w') (hk:yL σ rs ob1) (hn:xe8 (pX ob1) ob1) (hw:xcx rs.length ob1) (hx:x.now (pX ob1)):
  ∃E'',Leads E w E'' w'∧RdT E'' w' (x.mv (jI σ rs ob1)) v∧Rel cx E'' {σ with ob:=yC σ rs ob1} a w':=by
 have nd:=xse hs;have len':E'.ref.length=ob1.length:=R'.len;have hlen:=xxf hk;have ltO:∀r∈rs,r<σ.ob.length:=fun r hr=>by
  obtain⟨o,h,_⟩:=xeg hs r hr;exact(List.getElem?_eq_some_iff.1 h).1
 have ltR:∀r∈rs,r<E.ref.length:=fun r hr=>by rw [R.len];exact ltO r hr
 have hwW:cx.W.heap.size≤w.heap.size:=R.keep.size;have hnlB:∀b,E.B b→¬yM E rs b:=fun b hb ⟨r,hr,g,u,hu,hbu⟩=>by
  obtain⟨o,h1,h2,_⟩:=xeg hs r hr;obtain⟨u',k1,k2⟩:=R.ob r o h1;rw [hu] at k1;simp only [Option.some.injEq,Prod.mk.injEq] at k1;obtain⟨_,rfl⟩:=k1;exact k2.live_B h2 hbu hb
 have hBk:∀b,b<w.heap.size→¬yM E rs b→w'.heap[b]?=w.heap[b]?:=fun b hb hn=>R'.keep.block b hb hn;have hB':∀b,E'.B b→E.B b∨w.heap.size≤b:=fun b hb=>by
  by_cases c:b<w.heap.size
  ·rcases R'.old b hb c with h|h
   ·exact .inl h
   ·exact .inr h.1
  ·exact .inr ω
 obtain⟨RF,hRF⟩:∃RF,RF=mM (fun r (gu:Nat×Value)=>(xM σ r,gu.2)) id rs E'.ref E.ref:=⟨_,rfl⟩;have rOld:∀i,i<σ.ob.length→i∉rs→RF[i]?=E.ref[i]?:=fun i hi hm=>by rw [hRF];exact xnc (by rw [R.len];exact hi) hm
 have rAt:∀(p r:Nat) (gu:Nat×Value),rs[p]?=some r→E'.ref[p]?=some gu→RF[r]?=some (xM σ r,gu.2):=fun p r gu h1 h2=>by rw [hRF];exact xsf nd (ltR r (List.mem_of_getElem? h1)) h1 h2
 have rNew:∀j,RF[σ.ob.length+j]?=E'.ref[rs.length+j]?:=fun j=>by
  rw [hRF,←R.len,xsh (by rw [len'];exact hlen)];simp
 have rLen:RF.length=σ.ob.length+(ob1.length-rs.length):=by
  rw [hRF,xsg (by rw [len'];exact hlen),R.len,len']
 have oOld:∀i,i<σ.ob.length→i∉rs→(yC σ rs ob1)[i]?=σ.ob[i]?:=fun i hi hm=>xnc hi hm;have oAt:∀(p r:Nat) (o:Ob),rs[p]?=some r→ob1[p]?=some o→(yC σ rs ob1)[r]?=some (uM σ rs ob1 r o):=fun p r o h1 h2=>xsf nd (ltO r (List.mem_of_getElem? h1)) h1 h2;have oNew:∀j,(yC σ rs ob1)[σ.ob.length+j]?=(ob1[rs.length+j]?).map (bkN σ rs ob1):=fun j=>xsh hlen;have oLen:(yC σ rs ob1).length=σ.ob.length+(ob1.length-rs.length):=xsg hlen;have hr:∀p g u,pX ob1 p=some g→E'.ref[p]?=some (g,u)→RF[(jI σ rs ob1 p).1]?=some ((jI σ rs ob1 p).2,u):=fun p g u h1 h2=>by
  unfold jI;split
  ·rename_i r hp
   exact rAt p r _ hp h2
  ·rename_i hp
   have hp:rs.length≤p:=List.getElem?_eq_none_iff.1 hp;dsimp only;rw [rNew,h1,show rs.length+(p-rs.length)=p by omega,h2];rfl
 have hγ:∀(p g:Nat),pX ob1 p=some g→∃u:Value,E'.ref[p]?=some (g,u):=fun p g h=>by
  obtain⟨o,ho,rfl⟩:=xwv h;obtain⟨u,h1,_⟩:=R'.ob p o ho;exact⟨u,h1⟩
 have wrI:∀(p:Nat) (o:Ob) (u:Value) (b:Nat),ob1[p]?=some o→E'.ref[p]?=some (o.g,u)→aP u=some b→w.heap.size≤b∨yM E rs b:=fun p o u b h1 h2 h3=>by
  obtain⟨u',k1,k2⟩:=R'.ob p o h1;have k1:E'.ref[p]?=some (o.g,u'):=k1;rw [h2] at k1;simp only [Option.some.injEq,Prod.mk.injEq,true_and] at k1;subst k1;exact k2.wr h3
 have var:∀(p r:Nat) (q:Bool) (T:TypeId) (lv:Bool) (g:Nat) (v:V) (o1:Ob) (u1:Value),rs[p]?=some r→σ.ob[r]?=some ⟨.box q T,lv,g,v⟩→ob1[p]?=some o1→E'.ref[p]?=some (o1.g,u1)→E.ref[r]?=some (g,u1):=by
  intro p r q T lv g v o1 u1 h1 h2 h3 h4;obtain⟨u',k1,k2⟩:=R'.ob p o1 h3;have k1:E'.ref[p]?=some (o1.g,u'):=k1;rw [h4] at k1;simp only [Option.some.injEq,Prod.mk.injEq,true_and] at k1;subst k1;obtain⟨o,o0,m1,m2,m3,m4⟩:=xla hk p r h1;rw [h3] at m1;obtain rfl:=Option.some.inj m1;rw [h2] at m2;obtain rfl:=Option.some.inj m2;unfold OkO at k2;rw [m3] at k2;simp only [xbi] at k2;obtain⟨b1,cs,rfl,n2,n3,n4,n5⟩:=k2;rw [if_pos trivial] at n4;have n6:∃b,w.heap.size+b1=w.heap.size+b∧ybx E σ rs b:=Classical.byContradiction fun hc=>n4.2 (.inr ⟨by show w.heap.size≤w.heap.size+b1;omega,hc⟩);obtain⟨b,e,r',hm',q',T',lv',g',v',u',p1,p2,p3⟩:=n6;have e:b=b1:=ω;subst e;have is0:∀r∈rs,∀q T lv g v,σ.ob[r]?=some ⟨.box q T,lv,g,v⟩→r=r0:=fun r hr q T lv g v h=>by
   rw [hrs] at hr;rcases List.mem_cons.1 hr with h'|h'
   ·exact h'
   ·exact absurd h (yay hv r h' q T lv g v)
  have e1:=is0 r (List.mem_of_getElem? h1) _ _ _ _ _ h2;have e2:=is0 r' hm' _ _ _ _ _ p1;rw [e2,←e1] at p1 p2;rw [h2] at p1;injection p1 with p1
  injection p1 with a1 a2 a3 a4
  subst a3;rw [p2];obtain⟨u0,q1,q2⟩:=R.ob r _ h2;rw [p2] at q1;simp only [Option.some.injEq,Prod.mk.injEq,true_and] at q1;subst q1;unfold OkO at q2;obtain⟨b',cs',rfl,_⟩:=q2;simp only [aP,Option.some.injEq] at p3;subst p3;rfl
 have L:Leads E w ⟨fun b=>E.B b∨E'.B b,E.F,RF⟩ w':=by
  refine⟨fun b hb=>⟨.inl hb,hBk b (R.lt b hb) (hnlB b hb)⟩,fun _ h=>h,by show E.ref.length≤RF.length;rw [rLen,R.len];omega,fun r g u hlt h=>?_⟩;have h:RF[r]?=some (g,u):=h;by_cases hm:r∈rs
  ·obtain⟨p,hp⟩:=List.mem_iff_getElem?.1 hm
   obtain⟨o1,o0,m1,m2,m3,m4⟩:=xla hk p r hp;obtain⟨u1,k1,k2⟩:=R'.ob p o1 m1;have k1:E'.ref[p]?=some (o1.g,u1):=k1;obtain⟨u0,j1,j2⟩:=R.ob r o0 m2;rw [rAt p r _ hp k1] at h;simp only [Option.some.injEq,Prod.mk.injEq] at h;obtain⟨rfl,rfl⟩:=h;obtain⟨kk,lv,g0,v0⟩:=o0;refine⟨g0,u0,j1,?_,fun e=>?_⟩
   ·unfold xM;rw [m2];cases kk<;>simp
   ·cases kk with
    |box q T=>
     have:=var p r q T lv g0 v0 o1 u1 hp m2 m1 k1;rw [j1] at this;simpa using this
    |row e'=>unfold xM at e;rw [m2] at e;simp only at e;omega
    |rows q e'=>unfold xM at e;rw [m2] at e;simp only at e;omega
  ·rw [rOld r (by rw [←R.len];exact hlt) hm] at h
   exact⟨g,u,h,Nat.le_refl _,fun _=>rfl⟩
 have hBB:∀b,E'.B b→(⟨fun b=>E.B b∨E'.B b,E.F,RF⟩:Env).B b:=fun b hb=> .inr hb;have nB:∀b,¬E'.B b→(w.heap.size≤b∨yM E rs b)→¬(E.B b∨E'.B b):=fun b h1 h2 h=>by
  rcases h with h|h
  ·rcases h2 with h2|h2
   ·have:=R.lt b h;omega
   ·exact hnlB b h h2
  ·exact h1 h
 have lentW:∀b,yM E rs b→cx.W.heap.size≤b∨cx.lent b:=fun b ⟨r,hr,g,u,hu,hbu⟩=>by
  obtain⟨o,h1,h2,_⟩:=xeg hs r hr;obtain⟨u',k1,k2⟩:=R.ob r o h1;rw [hu] at k1;simp only [Option.some.injEq,Prod.mk.injEq] at k1;obtain⟨_,rfl⟩:=k1;exact k2.wr hbu
 have lentF:xa0 σ rs=true→∀b,yM E rs b→cx.W.heap.size≤b:=fun hf b ⟨r,hr,g,u,hu,hbu⟩=>by
  obtain⟨o,h1,h2,_⟩:=xeg hs r hr;obtain⟨u',k1,k2⟩:=R.ob r o h1;rw [hu] at k1;simp only [Option.some.injEq,Prod.mk.injEq] at k1;obtain⟨_,rfl⟩:=k1;exact k2.wrF (xwp hf r hr o h1) hbu
 have from_:∀(i:Nat) (o:Ob),(yC σ rs ob1)[i]?=some o→(i<σ.ob.length∧i∉rs∧σ.ob[i]?=some o∧RF[i]?=E.ref[i]?)∨(∃(p:Nat) (o1:Ob) (u1:Value),ob1[p]?=some o1∧E'.ref[p]?=some (o1.g,u1)∧OkO ⟨w,yM E rs,xl2 E σ w rs⟩ E' w' o1 u1∧(o1.live=true∨o1.live=o.live)∧RF[i]?=some (o.g,u1)∧(i=(jI σ rs ob1 p).1)∧
   ((∃(r:Nat) (o0:Ob),i=r∧rs[p]?=some r∧σ.ob[r]?=some o0∧o1.k=xbi o0.k∧o1.live=true∧o=uM σ rs ob1 r o1)∨(rs.length≤p∧i=σ.ob.length+(p-rs.length)∧xh2 o1.k=true∧o=bkN σ rs ob1 o1))):=by
  intro i o h;by_cases hi:i<σ.ob.length
  ·by_cases hm:i∈rs
   ·obtain⟨p,hp⟩:=List.mem_iff_getElem?.1 hm
    obtain⟨o1,o0,m1,m2,m3,m4⟩:=xla hk p i hp;obtain⟨u1,k1,k2⟩:=R'.ob p o1 m1;have k1:E'.ref[p]?=some (o1.g,u1):=k1;rw [oAt p i o1 hp m1] at h;obtain rfl:=Option.some.inj h;have eg:(uM σ rs ob1 i o1).g=xM σ i:=by unfold uM;rw [m2]
    refine .inr ⟨p,o1,u1,m1,k1,k2,.inl m4,by rw [rAt p i _ hp k1,eg],by unfold jI;rw [hp],.inl ⟨i,o0,rfl,hp,m2,m3,m4,rfl⟩⟩
   ·rw [oOld i hi hm] at h
    exact .inl ⟨hi,hm,h,rOld i hi hm⟩
  ·obtain⟨j,rfl⟩:∃j,i=σ.ob.length+j:=⟨i-σ.ob.length,ω⟩
   rw [oNew,Option.map_eq_some_iff] at h;obtain⟨o1,h1,rfl⟩:=h;obtain⟨u1,k1,k2⟩:=R'.ob _ o1 h1;have k1:E'.ref[rs.length+j]?=some (o1.g,u1):=k1;refine .inr ⟨rs.length+j,o1,u1,h1,k1,k2,.inr rfl,by rw [rNew,k1];rfl,?_,.inr ⟨ω,ω,xr7 hw _ _ ω h1,rfl⟩⟩;unfold jI;rw [List.getElem?_eq_none ω];dsimp only;omega
 refine⟨⟨fun b=>E.B b∨E'.B b,E.F,RF⟩,L,?_,R.df,R.n,fun i=>(R.tm i).mono L,by show RF.length=(yC σ rs ob1).length;rw [rLen,oLen],fun i o hi=>?_,fun i i' o o' g g' u u' b hne hi hi' hl hl' hu hu' hb hb'=>?_,fun b hb=>?_,R.fr,fun b hb hlt=>?_,⟨R'.keep.os.trans R.keep.os,R'.keep.tape.trans R.keep.tape,R'.keep.output.trans R.keep.output,Nat.le_trans R.keep.size R'.keep.size,fun k hk' hn'=>(R'.keep.block k (Nat.lt_of_lt_of_le hk' R.keep.size) (fun hlk=>?_)).trans (R.keep.block k hk' hn')⟩⟩
 ·have:=R'.tm 0
  simp only [aV,if_true] at this;exact xmb (E0:=⟨fun b=>E.B b∨E'.B b,E.F,RF⟩) hBB hr hγ hx (by simpa using this)
 ·rcases from_ i o hi with ⟨h1,h2,h3,h4⟩|⟨p,o1,u1,h1,h2,h3,h4,h5,h6,h7⟩
  ·obtain⟨u,k1,k2⟩:=R.ob i o h3
   refine⟨u,by show RF[i]?=_;rw [h4];exact k1,k2.keep L (fun b hb=>?_) (fun hl b hb hnb hB=>?_)⟩
   ·refine hBk b (k2.blk_lt hb) fun⟨r,hr',g,u',hu,hbu⟩=>?_
    obtain⟨or,q1,q2,_⟩:=xeg hs r hr';obtain⟨ur,q3,q4⟩:=R.ob r or q1;rw [hu] at q3;simp only [Option.some.injEq,Prod.mk.injEq] at q3;obtain⟨_,rfl⟩:=q3;have hne:r≠i:=fun e=>h2 (e▸hr');cases hlo:o.live with
    |true=>exact R.sep r i or o _ _ _ _ b hne q1 h3 q2 hlo hu k1 hbu hb
    |false=>
     refine q4.live_B q2 hbu ?_;unfold OkO at k2;split at k2
     ·obtain⟨b',cs,rfl,j2,_,_,j5⟩:=k2
      simp only [aP,Option.some.injEq] at hb;subst hb;rw [hlo] at j5;simp only [Bool.false_eq_true,if_false] at j5;exact j5.1
     ·obtain⟨s,l,xs,j1,j2,j3,j4,j5,j6,j7,j8⟩:=k2
      have:=j8 b hb;rw [hlo] at this;simpa using this
     ·rw [k2.1] at hlo;cases hlo
   ·rcases hB with hB|hB
    ·exact hnb hB
    ·rcases hB' b hB with h|h
     ·exact hnb h
     ·have:=k2.blk_lt hb;omega
  ·refine⟨u1,h5,?_⟩
   have hob:=yb9 hn o1 (List.mem_of_getElem? h1);have hwr:∀b,aP u1=some b→w.heap.size≤b∨yM E rs b:=fun b hb=>wrI p o1 u1 b h1 h2 hb;rcases h7 with ⟨r,o0,rfl,hp,m2,m3,m4,rfl⟩|⟨hp,he,hnk,rfl⟩
   ·obtain⟨kk,lv,g0,v0⟩:=o0
    have eo:uM σ rs ob1 i o1=⟨xen (!xa0 σ rs) kk,true,xM σ i,o1.v.mv (jI σ rs ob1)⟩:=by unfold uM;rw [m2]
    rw [eo];have nb1:∀b,aP u1=some b→¬E'.B b:=fun b hb=>h3.live_B m4 hb;obtain⟨u0,j1,j2⟩:=R.ob i _ m2;have base:∀e b,aP u1=some b→(OK.rows (!xa0 σ rs) e).base cx.W.heap.size≤b:=fun e b hb=>by
     cases hf:xa0 σ rs with
     |false=>exact Nat.zero_le _
     |true=>
      rcases hwr b hb with h|h
      ·exact Nat.le_trans hwW h
      ·exact lentF hf b h
    have hln:∀b,aP u1=some b→cx.W.heap.size≤b∨cx.lent b:=fun b hb=>by
     rcases hwr b hb with h|h
     ·exact .inl (Nat.le_trans hwW h)
     ·exact lentW b h
    cases kk with
    |box q T=>
     have e:=var p i q T lv g0 v0 o1 u1 hp m2 h1 h2;rw [j1] at e;simp only [Option.some.injEq,Prod.mk.injEq,true_and] at e;subst e;unfold OkO at h3 j2⊢;rw [m3] at h3;simp only [xbi] at h3;simp only [xen];obtain⟨b,cs,rfl,n2,n3,n4,n5⟩:=h3;obtain⟨b',cs',e',n2',n3',n4',n5'⟩:=j2;simp only [Value.pointer.injEq,Option.some.injEq,Addr.mk.injEq,and_true] at e';subst e';refine⟨b,cs,rfl,n2,xb4 (E0:=⟨fun b=>E.B b∨E'.B b,E.F,RF⟩) hBB hr hγ hob n3,n4',?_⟩;rw [if_pos trivial];exact nB b (nb1 b rfl) (hwr b rfl)
    |row e'=>
     unfold OkO at h3⊢;rw [m3] at h3;simp only [xbi] at h3;simp only [xen];obtain⟨n0,s,l,xs,n1,n3,n4,n5,n6,n7,n8⟩:=h3;have hl1:(V.mvs (jI σ rs ob1) l).length=l.length:=by rw [rH,List.length_map]
     rw [n1] at hob;refine⟨trivial,s,V.mvs (jI σ rs ob1) l,xs,by rw [n1];rfl,xag n3,n4,ω,by rw [hl1];exact xb7 n6 (base _),yR (E0:=⟨fun b=>E.B b∨E'.B b,E.F,RF⟩) hBB hr hγ (by simpa only [V.now] using hob) n7,fun b hb=>⟨nB b (nb1 b hb) (hwr b hb),hln b hb⟩⟩
    |rows q e'=>
     unfold OkO at h3⊢;rw [m3] at h3;simp only [xbi] at h3;simp only [xen];obtain⟨n0,s,l,xs,n1,n3,n4,n5,n6,n7,n8⟩:=h3;have hl1:(V.mvs (jI σ rs ob1) l).length=l.length:=by rw [rH,List.length_map]
     rw [n1] at hob;refine⟨trivial,s,V.mvs (jI σ rs ob1) l,xs,by rw [n1];rfl,xag n3,n4,ω,by rw [hl1];exact xb7 n6 (base _),yR (E0:=⟨fun b=>E.B b∨E'.B b,E.F,RF⟩) hBB hr hγ (by simpa only [V.now] using hob) n7,fun b hb=>⟨nB b (nb1 b hb) (hwr b hb),hln b hb⟩⟩
   ·have hl:∀b,aP u1=some b→¬E'.B b→¬(E.B b∨E'.B b):=fun b hb h=>nB b h (hwr b hb)
    unfold OkO at h3⊢;simp only [bkN];split at h3
    ·rename_i q T hkk
     obtain⟨b,cs,rfl,n2,n3,n4,n5⟩:=h3;rw [hkk] at hnk;cases q with
     |true=>simp [xh2] at hnk
     |false=>
      simp only [Bool.false_eq_true,if_false] at n4⊢;refine⟨b,cs,rfl,n2,xb4 (E0:=⟨fun b=>E.B b∨E'.B b,E.F,RF⟩) hBB hr hγ hob n3,Nat.le_trans hwW n4,?_⟩;show(if o1.live=true then ¬(E.B b∨E'.B b) else(E.B b∨E'.B b)∧E.F b∧(V.mv (jI σ rs ob1) o1.v).pure=true);by_cases hlv:o1.live=true
      ·rw [if_pos hlv] at n5⊢
       exact hl b rfl n5
      ·rw [if_neg hlv] at n5⊢
       obtain⟨n5,n6,n7⟩:=n5;exact⟨.inr n5,(R.fr b).2 (Nat.le_trans hwW n4),by rw [V.mv_pure _ _ n7,V.low_pure];exact n7⟩
    ·obtain⟨s,l,xs,n1,n2,n3,n4,n5,n6,n7,n8⟩:=h3
     have hl1:(V.mvs (jI σ rs ob1) l).length=l.length:=by rw [rH,List.length_map]
     have hge:∀b,aP u1=some b→cx.W.heap.size≤b:=fun b hb=>by
      rcases n6.2 with ⟨rfl,_⟩|⟨g,cap,cur,rfl,k1,k2,k3⟩
      ·simp [aP] at hb
      ·simp only [aP,Option.some.injEq] at hb
       subst hb;exact Nat.le_trans hwW k1
     refine⟨s,V.mvs (jI σ rs ob1) l,xs,by rw [n1];rfl,by rw [V.mvs_pure _ _ n2,V.lows_pures];exact n2,xag n3,n4,ω,by rw [hl1];exact xb7 n6 hge,yR (E0:=⟨fun b=>E.B b∨E'.B b,E.F,RF⟩) hBB hr hγ (V.nows_pure _ _ n2) n7,fun b hb=>?_⟩;have:=n8 b hb;show(if o1.live=true then ¬(E.B b∨E'.B b) else(E.B b∨E'.B b));by_cases hlv:o1.live=true
     ·rw [if_pos hlv] at this⊢
      exact hl b hb this
     ·rw [if_neg hlv] at this⊢
      exact .inr this
    ·rename_i q e' hkk
     obtain⟨n0,s,l,xs,n1,n3,n4,n5,n6,n7,n8⟩:=h3;rw [hkk] at hnk;cases q with
     |true=>simp [xh2] at hnk
     |false=>
      have hl1:(V.mvs (jI σ rs ob1) l).length=l.length:=by rw [rH,List.length_map]
      have hge:∀b,aP u1=some b→cx.W.heap.size≤b:=fun b hb=>by
       rcases n6.2 with ⟨rfl,_⟩|⟨g,cap,cur,rfl,k1,k2,k3⟩
       ·simp [aP] at hb
       ·simp only [aP,Option.some.injEq] at hb
        subst hb;exact Nat.le_trans hwW k1
      rw [n1] at hob;exact⟨n0,s,V.mvs (jI σ rs ob1) l,xs,by rw [n1];rfl,xag n3,n4,ω,by rw [hl1];exact xb7 n6 hge,yR (E0:=⟨fun b=>E.B b∨E'.B b,E.F,RF⟩) hBB hr hγ (by simpa only [V.now] using hob) n7,fun b hb=>⟨hl b hb (n8 b hb).1,.inl (hge b hb)⟩⟩
 ·
  have hu:RF[i]?=some (g,u):=hu;have hu':RF[i']?=some (g',u'):=hu';have oldNew:∀(i:Nat) (o:Ob) (g:Nat) (u:Value),i<σ.ob.length→i∉rs→σ.ob[i]?=some o→o.live=true→E.ref[i]?=some (g,u)→aP u=some b→(w.heap.size≤b∨yM E rs b)→False:=by
   intro i o g u h1 h2 h3 h4 h5 h6 h7;obtain⟨u2,q3,q4⟩:=R.ob i o h3;rw [h5] at q3;simp only [Option.some.injEq,Prod.mk.injEq] at q3;obtain⟨_,rfl⟩:=q3;rcases h7 with h7|⟨r,hr',gr,ur,e1,e2⟩
   ·have:=q4.blk_lt h6;omega
   ·obtain⟨or,p1,p2,_⟩:=xeg hs r hr'
    exact R.sep i r o or g gr u ur b (fun e=>h2 (e▸hr')) h3 p1 h4 p2 h5 e1 h6 e2
  rcases from_ i o hi with ⟨h1,h2,h3,h4⟩|⟨p,o1,u1,h1,h2,h3,h4,h5,h6,h7⟩
  ·rw [h4] at hu
   rcases from_ i' o' hi' with ⟨k1,k2,k3,k4⟩|⟨p',o1',u1',k1,k2,k3,k4,k5,k6,k7⟩
   ·rw [k4] at hu'
    exact R.sep i i' o o' g g' u u' b hne h3 k3 hl hl' hu hu' hb hb'
   ·rw [k5] at hu'
    simp only [Option.some.injEq,Prod.mk.injEq] at hu';obtain⟨_,rfl⟩:=hu';exact oldNew i o g u h1 h2 h3 hl hu hb (wrI p' o1' _ b k1 k2 hb')
  ·rw [h5] at hu
   simp only [Option.some.injEq,Prod.mk.injEq] at hu;obtain⟨_,rfl⟩:=hu;rcases from_ i' o' hi' with ⟨k1,k2,k3,k4⟩|⟨p',o1',u1',k1,k2,k3,k4,k5,k6,k7⟩
   ·rw [k4] at hu'
    exact oldNew i' o' g' u' k1 k2 k3 hl' hu' hb' (wrI p o1 _ b h1 h2 hb)
   ·rw [k5] at hu'
    simp only [Option.some.injEq,Prod.mk.injEq] at hu';obtain⟨_,rfl⟩:=hu';exact R'.sep p p' o1 o1' _ _ _ _ b (fun e=>hne (by rw [h6,k6,e])) h1 k1 (h4.elim id fun h=>h.trans hl) (k4.elim id fun h=>h.trans hl') h2 k2 hb hb'
 ·rcases hb with hb|hb
  ·exact Nat.lt_of_lt_of_le (R.lt b hb) R'.keep.size
  ·exact R'.lt b hb
 ·rcases hb with hb|hb
  ·exact R.old b hb hlt
  ·rcases hB' b hb with h|h
   ·exact R.old b h hlt
   ·omega
 ·rcases lentW k hlk with h|h
  ·omega
  ·exact hn' h
theorem xob (R:Rel cx E σ a w) {f:FuncId} {aas:List Operand} {xs:List X} (hxs:vF aas=some xs) {r0:Nat} {rl:List Nat} {ws ys:List V} {ob0:List Ob} {R0:V→List Ob→Prop} (hF:FncI P f ob0 ys R0) (hx:xs.map (X.ev σ)=ws) (hs:zB σ (r0::rl) (r0::rl)) (hv:xb5 σ rl) (hn:V.nows (sV σ (r0::rl)) ws)
  (hy:V.mvs (fun q=>(kF (r0::rl) q,0)) ws=ys) (hob:vV σ (r0::rl) (r0::rl)=ob0):
  Calls P f (aas.map a.eval).toArray w fun e w'=>∃x ob1 v,R0 x ob1∧e=.returned v∧(yL σ (r0::rl) ob1→xe8 (pX ob1) ob1→xcx (r0::rl).length ob1→x.now (pX ob1)→∃E',Leads E w E' w'∧RdT E' w' (x.mv (jI σ (r0::rl) ob1)) v∧Rel cx E' {σ with ob:=yC σ (r0::rl) ob1} a w'):=by
 subst hx hy hob;have hr:=yD R hxs;have R1:=R.sendI hs hr hn;have hl:=xhc hr;refine(hF w _ _ _ _ ?_ R1).mono ?_
 ·simpa [rH] using hl
 ·rintro e w' ⟨x,ob1,v,E',h1,rfl,R2⟩
  exact⟨x,ob1,v,h1,rfl,fun k1 k2 k3 k4=>R.backI rfl hs hv R2 k1 k2 k3 k4⟩
theorem pU {N:Nat} {Q:Exit→Act→World→Prop} {k:List It} {n:Nat} {t:List (Nat×V)} {ob:List Ob} {lr:List RO} {gd:Option (Nat×Bool)} {i:Nat} {f:FuncId} {xs:List X} (r0:Nat) (rl:List Nat) {ys:List V} {ob0 ob1:List Ob} {x:V} (hF:FncI P f ob0 ys fun y o=>y=x∧o=ob1)
  (h:bQ ⟨n,t,ob⟩ gd=some true∧zB ⟨n,t,ob⟩ (r0::rl) (r0::rl)∧xb5 ⟨n,t,ob⟩ rl∧V.nows (sV ⟨n,t,ob⟩ (r0::rl)) (xs.map (X.ev ⟨n,t,ob⟩))∧V.mvs (fun q=>(kF (r0::rl) q,0)) (xs.map (X.ev ⟨n,t,ob⟩))=ys∧vV ⟨n,t,ob⟩ (r0::rl) (r0::rl)=ob0∧yL ⟨n,t,ob⟩ (r0::rl) ob1∧xe8 (pX ob1) ob1∧xcx (r0::rl).length ob1∧x.now (pX ob1)∧
   mD (EvR P cx N Q k) [(),(),(),(),(),(),(),()] lr ⟨n,(i,x.mv (jI ⟨n,t,ob⟩ (r0::rl) ob1))::t,yC ⟨n,t,ob⟩ (r0::rl) ob1⟩):EvR P cx N Q k (⟨some i,gd,.call f xs⟩::lr) ⟨n,t,ob⟩:=by
 obtain⟨hw,hs,hv,hn,hy,hob,c1,c2,c3,c4,h⟩:=h;have h:=dH h;refine⟨fun hN E a w R ops os hcc=>?_⟩;obtain⟨o,os',rfl,h1,h2⟩:=kX hcc;obtain⟨k1,k2,k3,k4⟩:=kY h1;obtain⟨aas,hxs,hrun⟩:=wC k1 a;unfold wpList;rw [if_pos (uH R k2 hw)];refine .inl ?_;unfold Oper.wp;rw [hrun w,Oper.upon_enter];refine(xob R hxs hF rfl hs hv hn hy hob).mono ?_
 rintro e w' ⟨x',ob',v,⟨rfl,rfl⟩,rfl,hb⟩
 obtain⟨E',L,hx',R'⟩:=hb c1 c2 c3 c4;show wpList P ops (lT P cx N Q k) os' (a.put o.dst v) w';rw [show o.dst=some i from k3];exact h.h hN E' _ w' (R'.put (d:=some i) (fun j hj=>by show j<n;rw [show n=N from hN];exact k4 j hj) hx') ops os' h2
end
def V.pr:V→Bool
 | .rp _=>true
 |x=>x.pure
theorem yrd {E E0:Env} {w:World} (hB:∀b,E.B b→E0.B b) {x:V} {v:Value} (hp:x.pr=true) (h:RdT E w x v):RdT E0 w x.low v:=by
 unfold V.pr at hp;split at hp
 ·simp only [RdT,RdV,V.low] at h⊢
  obtain⟨h1,b,o,xs,h2,h3,h4,h5⟩:=h;exact⟨by rw [V.low_pure];exact h1,b,o,xs,h2,hB b h3,xa2 hB h1 h4,h5⟩
 ·exact xf3 hB hp h
theorem xrv {E E0:Env} {w:World} (hB:∀b,E.B b→E0.B b):∀{l:List V} {vs:List Value},l.all V.pr=true→RdTs E w l vs→RdTs E0 w (l.map V.low) vs
 |[],vs,_,h=>by simp only [RdTs,List.map_nil] at h⊢;exact h
 |x::l,vs,hp,h=>by
  simp only [List.all_cons,Bool.and_eq_true] at hp;simp only [RdTs,List.map_cons] at h⊢;obtain⟨v,ys,h1,h2,h3⟩:=h;exact⟨v,ys,h1,yrd hB hp.1 h2,xrv hB hp.2 h3⟩
attribute [go_sem] V.pr
theorem ypl {α:Type} (γ:Nat→Option Nat) (f:α→V) {g:α→V} [h:Lo f g] (l:List α):V.nows γ (l.map f)=True:=eq_true (V.nows_pure _ _ (bV f l))
theorem ypb {α:Type} (ρ:Nat→Nat×Nat) (f:α→V) {g:α→V} [h:Lo f g] (l:List α):V.mvs ρ (l.map f)=l.map g:=by rw [V.mvs_pure _ _ (bV f l),uC]
attribute [go_sem] ypl ypb
attribute [go_sem] V.mv V.mvs V.now V.nows kF pX sV xbi vV zB xb5 xgg xa0 yL xh2 xe8 xcx xM xen jI mM uM bkN yC
end Rdn.Dp
namespace Rdn.Dp
open Go Go.RowKit Rdn
theorem dG {P:Program} {f:FuncId} {n:Nat} {m:MC} {rs:List POp} {ob:List Ob} {xs:List V} {R0:V→List Ob→Prop} {p:World→(Nat→Prop)→(Nat→Prop)→Prop} (hc:gU P f=some (n,m,rs)) (k:∀W lent S,p W lent S) (h:Zb (gU P f=some (n,m,rs))→Zb (∀W lent S,p W lent S)→FncI P f ob xs R0:=by
 intro zc zk;refine FncI.intro zc.h ξ fun W lent S=>?_;simp only [ents,Nat.zero_add,Nat.reduceAdd,Qm,Qc,Ql,QL,Qf,Qs,Qb,Qk,QB,Qn,Qe,Qx,Qt,Qu,Q0,Q1,Qp,Qw,Qq,Qr,Qi];exact zk.h W lent S):FncI P f ob xs R0:=h ⟨hc⟩ ⟨k⟩
theorem aK {P Q:Prop} (k:P) (h:Zb P→Q:=by
 intro zk;simp only [List.set_cons_zero,List.set_cons_succ];exact zk.h):Q:=h ⟨k⟩
theorem vX {Q R:Prop} (r:R) (h:Zb R→Q:=by
 intro zr;refine gZ 12 zr.h ?_;(first|(simp only [go_sem];done)|(simp only [go_sem];((try dsimp only);(repeat' (refine And.intro ?_ ?_))<;>first|with_reducible rfl|(simp only [go_sem];done)|(simp only [go_sem];rfl)|(simp only [go_sem,List.map_set];done)|(simp only [List.map_set];(try simp only [go_sem]);first|done|rfl)|(simp only [go_sem];simp [List.map_set];done)|(simp [List.map_set];done)|rfl)))):Q:=h ⟨r⟩
theorem mX {P Q:Prop} (k:P) (h:Zb P→Q:=by
 intro zk;(repeat(first|refine And.intro ω ?_|refine And.intro rfl ?_|refine gJ rfl rfl ?_|refine bY ?_|refine dI (by kernel_rfl) ?_|(simp (disch:=omega) only [fJ,Nat.min_eq_left,Nat.min_eq_right,if_pos,if_neg,fF,bW,dU,fH,fM,fK,aN,aJ,dB,dA,dP,dO,Int.toNat_natCast];try simp only [go_sem])|(refine dR rfl ?_ ?_;·(simp<;>omega))|(refine dZ rfl ?_ ?_;·(simp<;>omega))|((first|refine fQ ?_|refine gK rfl ?_|refine sQ [] rfl ?_);simp only [go_sem])));exact zk.h):Q:=h ⟨k⟩
theorem zsg {P Q:Prop} (k:P) (h:Zb P→Q:=by
 intro zk;(repeat(first|refine And.intro ω ?_|refine And.intro rfl ?_|refine gJ rfl rfl ?_|refine bY ?_|refine dI (by kernel_rfl) ?_|(simp (disch:=omega) only [fJ,Nat.min_eq_left,Nat.min_eq_right,if_pos,if_neg,fF,bW,dU,fH,fM,fK,aN,aJ,dB,dA,dP,dO,Int.toNat_natCast];try simp only [go_sem])|(refine dR rfl ?_ ?_;·(simp<;>omega))|(refine dZ rfl ?_ ?_;·(simp<;>omega))|((first|refine fQ ?_|refine gK rfl ?_|refine sQ [13] rfl ?_|refine jJ aT rfl (by kernel_rfl) ?_|refine jK aT rfl (by kernel_rfl) ?_|refine jL aT rfl (by kernel_rfl) ?_);simp only [go_sem])));exact zk.h):Q:=h ⟨k⟩
theorem zrl {Q R:Prop} (r:R) (h:Zb R→Q:=by
 intro zr;refine ret zr.h [] ?_;(first|(simp only [go_sem];done)|(simp only [go_sem];((try dsimp only);(repeat' (refine And.intro ?_ ?_))<;>first|with_reducible rfl|(simp only [go_sem];done)|(simp only [go_sem];rfl)|(simp only [go_sem,List.take_length];done)|(simp only [List.take_length];(try simp only [go_sem]);first|done|rfl)|(simp only [go_sem];simp [List.take_length];done)|(simp [List.take_length];done)|rfl)))):Q:=h ⟨r⟩
theorem dE {T R G Q:Prop} (b:T) (r:R) (k:G) (h:Zb T→Zb R→Zb G→Q:=by
 intro zb zr zk;apply xsz zb.h zr.h []
 ·(simp only [go_sem];rfl)
 ·(first|exact trivial|(simp;done))
 ·(first|(simp [vP];done)|exact xrp rfl)
 ·(simp only [go_sem];(first|done|trivial|simp [V.resOk,V.ressOk,bT,V.pures,V.pure,xmu,bV,xjk]))
 ·(first|(simp only [V.res,V.ress,bT,List.idxOf?_nil,List.idxOf?_cons,List.getElem?_cons_zero,List.getElem?_cons_succ];first|rfl|(simp only [go_sem];rfl))|rfl)
 ·(first|(simp only [go_sem];rfl)|rfl)
 ·rfl
 ·(simp only [go_sem];(first|done|rfl))
 exact zk.h):Q:=h ⟨b⟩ ⟨r⟩ ⟨k⟩
section
variable {P:Program} {cx:Cx} {N:Nat} {Q:Exit→Act→World→Prop} {k:List It} {n:Nat} {t:List (Nat×V)} {ob:List Ob}
theorem bI {ι:Type} (ks:List Nat) (U:ι→List (Nat×V)) (O:ι→List Ob) (μ:ι→Nat) (i0:ι) (m:Nat) {tk:List (Nat×V)} {x:MC}
  (round:∀J:ι→AS→Prop,(∀i i',μ i'<μ i→J i ⟨n,U i'++tk,O i'⟩)→∀i,Ev P cx N Q (.code x::.goal (J i)::k) ⟨n,U i++tk,O i⟩)
  (htk:xf2 t ks=tk:=by simp only [go_sem];rfl) (hU:Eqs t (U i0):=by simp only [go_sem];(try simp []);done) (hO:ob.take m=O i0:=by first|rfl|(simp only [go_sem];done)) (hm:m≤ob.length:=by simp) (hs:oU m (U i0)=true:=by first|rfl|(simp only [go_sem];done)) (hs2:oU m tk=true:=by first|rfl|(simp only [go_sem];done)) (hs3:sK m (O i0)=true:=by first|rfl|(simp only [go_sem];done)):Ev P cx N Q (.code (.loop x)::k) ⟨n,t,ob⟩:=
 gY ks U O μ i0 m htk hU hO hm hs hs2 hs3 round
end
end Rdn.Dp
