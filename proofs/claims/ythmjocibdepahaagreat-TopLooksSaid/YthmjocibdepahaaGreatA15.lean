import Derived.Test.YthmjocibdepahaaGreatA8
set_option linter.unusedVariables false
namespace Rdn.Dp
open Go Go.RowKit Rdn
mutual
def V.stl (r g:Nat):V→V
 | .sl t s l=> .own r g
 | .agg l=> .agg (V.stls r g l)
 | .tup l=> .tup (V.stls r g l)
 | .nilS=> .own r g
 | .int k n=> .int k n
 | .bool b=> .bool b
 | .arr s l=> .junk
 | .str s=> .junk
 | .own r g=> .junk
 | .ptr r g p o=> .junk
 | .osl r g s a b=> .junk
 | .rp x=> .junk
 | .fn f=> .junk
 | .lit f=> .junk
 | .clo f l=> .junk
 | .junk=> .junk
def V.stls (r g:Nat):List V→List V
 |[]=>[]
 |x::l=>x.stl r g::V.stls r g l
end
mutual
def V.stOk:V→Bool
 | .sl t s l=>true
 | .agg l=>V.stOks l
 | .tup l=>V.stOks l
 | .nilS=>true
 | .int k n=>true
 | .bool b=>true
 | .arr s l=>false
 | .str s=>false
 | .own r g=>false
 | .ptr r g p o=>false
 | .osl r g s a b=>false
 | .rp x=>false
 | .fn f=>false
 | .lit f=>false
 | .clo f l=>false
 | .junk=>false
def V.stOks:List V→Bool
 |[]=>true
 |x::l=>x.stOk && V.stOks l
end
section
variable {E E0:Env} {w w0:World} {r g:Nat}
mutual
theorem xni {gc:Nat} {u:Value} (hr:E0.ref[r]?=some (gc,u)) (hg:g<gc):∀{x:V} {cs:List Value},x.stOk=true→RdV E w x cs→RdV E0 w0 (x.stl r g) cs
 | .sl t s l,cs,hk,h=>by
  simp only [RdV] at h;obtain⟨_,_,A,c,rfl,_⟩:=h;simp only [V.stl,RdV];refine⟨_,rfl,rfl,(List.getElem?_eq_some_iff.1 hr).1,fun gc' u' h=>?_⟩;rw [hr] at h;injection h with h
  injection h with e1 e2
  subst e1 e2;exact⟨ω,fun e=>by omega⟩
 | .nilS,cs,hk,h=>by
  simp only [RdV] at h;subst h;simp only [V.stl,RdV];refine⟨_,rfl,rfl,(List.getElem?_eq_some_iff.1 hr).1,fun gc' u' h=>?_⟩;rw [hr] at h;injection h with h
  injection h with e1 e2
  subst e1 e2;exact⟨ω,fun e=>by omega⟩
 | .agg l,cs,hk,h=>by simp only [V.stOk] at hk;simp only [RdV,V.stl] at h⊢;exact yec hr hg hk h
 | .tup l,cs,hk,h=>by simp only [RdV] at h
 | .int k n,cs,hk,h=>by simp only [RdV,V.stl] at h⊢;exact h
 | .bool b,cs,hk,h=>by simp only [RdV,V.stl] at h⊢;exact h
 | .arr s l,cs,hk,h=>by simp [V.stOk] at hk
 | .str s,cs,hk,h=>by simp [V.stOk] at hk
 | .own r g,cs,hk,h=>by simp [V.stOk] at hk
 | .ptr r g p o,cs,hk,h=>by simp [V.stOk] at hk
 | .osl r g s a b,cs,hk,h=>by simp [V.stOk] at hk
 | .rp x,cs,hk,h=>by simp [V.stOk] at hk
 | .fn f,cs,hk,h=>by simp [V.stOk] at hk
 | .lit f,cs,hk,h=>by simp [V.stOk] at hk
 | .clo f l,cs,hk,h=>by simp [V.stOk] at hk
 | .junk,cs,hk,h=>by simp [V.stOk] at hk
theorem yec {gc:Nat} {u:Value} (hr:E0.ref[r]?=some (gc,u)) (hg:g<gc):∀{l:List V} {cs:List Value},V.stOks l=true→RdL E w l cs→RdL E0 w0 (V.stls r g l) cs
 |[],cs,_,h=>by simp only [RdL,V.stls] at h⊢;exact h
 |x::l,cs,hk,h=>by
  simp only [V.stOks,Bool.and_eq_true] at hk;simp only [RdL,V.stls] at h⊢;obtain⟨c,ys,h1,h2,h3⟩:=h;exact⟨c,ys,h1,xni hr hg hk.1 h2,yec hr hg hk.2 h3⟩
end
mutual
theorem yvq {gc:Nat} {u:Value} (hr:E0.ref[r]?=some (gc,u)) (hg:g<gc):∀{x:V} {v:Value},x.stOk=true→RdT E w x v→RdT E0 w0 (x.stl r g) v
 | .sl t s l,v,hk,h=>by
  have:=xni (w0:=w0) (x:=.sl t s l) (cs:=[v]) hr hg hk (by simpa only [RdT] using h);simpa only [V.stl,RdT] using this
 | .nilS,v,hk,h=>by
  have:=xni (w0:=w0) (x:=.nilS) (cs:=[v]) hr hg hk (by simpa only [RdT] using h);simpa only [V.stl,RdT] using this
 | .agg l,v,hk,h=>by
  simp only [RdT] at h;obtain⟨cs,h1,h2⟩:=h;have:=xni (w0:=w0) hr hg hk h2;simp only [V.stl] at this;simp only [RdT,V.stl];exact⟨cs,h1,this⟩
 | .tup l,v,hk,h=>by
  simp only [V.stOk] at hk;simp only [RdT,V.stl] at h⊢;obtain⟨vs,h1,h2⟩:=h;exact⟨vs,h1,yeb hr hg hk h2⟩
 | .int k n,v,hk,h=>by simp only [RdT,RdV,V.stl] at h⊢;exact h
 | .bool b,v,hk,h=>by simp only [RdT,RdV,V.stl] at h⊢;exact h
 | .arr s l,v,hk,h=>by simp [V.stOk] at hk
 | .str s,v,hk,h=>by simp [V.stOk] at hk
 | .own r g,v,hk,h=>by simp [V.stOk] at hk
 | .ptr r g p o,v,hk,h=>by simp [V.stOk] at hk
 | .osl r g s a b,v,hk,h=>by simp [V.stOk] at hk
 | .rp x,v,hk,h=>by simp [V.stOk] at hk
 | .fn f,v,hk,h=>by simp [V.stOk] at hk
 | .lit f,v,hk,h=>by simp [V.stOk] at hk
 | .clo f l,v,hk,h=>by simp [V.stOk] at hk
 | .junk,v,hk,h=>by simp [V.stOk] at hk
theorem yeb {gc:Nat} {u:Value} (hr:E0.ref[r]?=some (gc,u)) (hg:g<gc):∀{l:List V} {vs:List Value},V.stOks l=true→RdTs E w l vs→RdTs E0 w0 (V.stls r g l) vs
 |[],vs,_,h=>by simp only [RdTs,V.stls] at h⊢;exact h
 |x::l,vs,hk,h=>by
  simp only [V.stOks,Bool.and_eq_true] at hk;simp only [RdTs,V.stls] at h⊢;obtain⟨v,ys,h1,h2,h3⟩:=h;exact⟨v,ys,h1,yvq hr hg hk.1 h2,yeb hr hg hk.2 h3⟩
end
end
section
variable {P:Program} {cx:Cx} {N:Nat} {Q:Exit→Act→World→Prop} {k:List It} {n:Nat} {t:List (Nat×V)} {ob:List Ob} {l:List RO} {gd:Option (Nat×Bool)} {f:FuncId} {xs:List X} {ys:List V} {x:V} {E:Env} {a:Act} {w:World}
end
attribute [go_sem] V.stl V.stls V.stOk V.stOks
end Rdn.Dp
namespace Rdn.Dp
open Go Go.RowKit Rdn
mutual
def V.inq (π:List Nat):V→Bool
 | .own r _=>π.contains r
 | .ptr r _ _ _=>π.contains r
 | .osl r _ _ _ _=>π.contains r
 | .agg l=>V.inqs π l
 | .arr _ l=>V.inqs π l
 | .tup l=>V.inqs π l
 | .clo _ l=>V.inqs π l
 | .int _ _=>true
 | .bool _=>true
 | .str _=>true
 | .nilS=>true
 | .sl _ _ _=>true
 | .rp x=>x.pure
 | .fn _=>true
 | .lit _=>true
 | .junk=>true
def V.inqs (π:List Nat):List V→Bool
 |[]=>true
 |x::l=>x.inq π && V.inqs π l
end
mutual
def V.rn (π:List Nat):V→V
 | .own r g=> .own (kF π r) g
 | .ptr r g p o=> .ptr (kF π r) g p o
 | .osl r g s a b=> .osl (kF π r) g s a b
 | .agg l=> .agg (V.rns π l)
 | .arr s l=> .arr s (V.rns π l)
 | .tup l=> .tup (V.rns π l)
 | .clo f l=> .clo f (V.rns π l)
 | .int k n=> .int k n
 | .bool b=> .bool b
 | .str s=> .str s
 | .nilS=> .nilS
 | .sl t s l=> .sl t s l
 | .rp x=> .rp x
 | .fn f=> .fn f
 | .lit f=> .lit f
 | .junk=> .junk
def V.rns (π:List Nat):List V→List V
 |[]=>[]
 |x::l=>x.rn π::V.rns π l
end
theorem ycv (π:List Nat) (l:List V):V.rns π l=l.map (V.rn π):=by
 induction l with
 |nil=>rfl
 |cons a l ih=>simp only [V.rns,ih,List.map_cons]
theorem inqs_iff {π:List Nat} {l:List V}:V.inqs π l=true↔∀x∈l,x.inq π=true:=by
 induction l with
 |nil=>simp [V.inqs]
 |cons a l ih=>simp [V.inqs,ih]
mutual
theorem V.rn_size (π:List Nat):∀x:V,(x.rn π).size=x.size
 | .own r g=>rfl
 | .ptr r g p o=>rfl
 | .osl r g s a b=>rfl
 | .agg l=>by simp only [V.rn,V.size];exact V.rns_size π l
 | .arr s l=>by simp only [V.rn,V.size,ycv,List.length_map]
 | .tup l=>rfl
 | .clo f l=>rfl
 | .int k n=>rfl
 | .bool b=>rfl
 | .str s=>rfl
 | .nilS=>rfl
 | .sl t s l=>rfl
 | .rp x=>rfl
 | .fn f=>rfl
 | .lit f=>rfl
 | .junk=>rfl
theorem V.rns_size (π:List Nat):∀l:List V,V.sizes (V.rns π l)=V.sizes l
 |[]=>rfl
 |x::l=>by simp only [V.rns,V.sizes,V.rn_size π x,V.rns_size π l]
end
theorem ywz {π:List Nat} {s:Nat} {l:List V} (h:Unif s l):Unif s (V.rns π l):=fun x hx=>by
 rw [ycv] at hx;obtain⟨y,hy,rfl⟩:=List.mem_map.1 hx;rw [V.rn_size];exact h y hy
mutual
theorem V.rn_pure (π:List Nat):∀x:V,x.pure=true→x.rn π=x
 | .own r g,h=>by simp [V.pure] at h
 | .ptr r g p o,h=>by simp [V.pure] at h
 | .osl r g s a b,h=>by simp [V.pure] at h
 | .agg l,h=>by simp only [V.pure] at h;simp only [V.rn,V.rns_pure π l h]
 | .arr s l,h=>by simp only [V.pure] at h;simp only [V.rn,V.rns_pure π l h]
 | .tup l,h=>by simp [V.pure] at h
 | .clo f l,h=>by simp [V.pure] at h
 | .int k n,h=>rfl
 | .bool b,h=>rfl
 | .str s,h=>rfl
 | .nilS,h=>rfl
 | .sl t s l,h=>rfl
 | .rp x,h=>by simp [V.pure] at h
 | .fn f,h=>by simp [V.pure] at h
 | .lit f,h=>by simp [V.pure] at h
 | .junk,h=>by simp [V.pure] at h
theorem V.rns_pure (π:List Nat):∀l:List V,V.pures l=true→V.rns π l=l
 |[],_=>rfl
 |x::l,h=>by
  simp only [V.pures,Bool.and_eq_true] at h;simp only [V.rns,V.rn_pure π x h.1,V.rns_pure π l h.2]
end
mutual
theorem V.inq_pure {π:List Nat}:∀x:V,x.pure=true→x.inq π=true
 | .own r g,h=>by simp [V.pure] at h
 | .ptr r g p o,h=>by simp [V.pure] at h
 | .osl r g s a b,h=>by simp [V.pure] at h
 | .agg l,h=>by simp only [V.pure] at h;simp only [V.inq];exact V.inqs_pure l h
 | .arr s l,h=>by simp only [V.pure] at h;simp only [V.inq];exact V.inqs_pure l h
 | .tup l,h=>by simp [V.pure] at h
 | .clo f l,h=>by simp [V.pure] at h
 | .int k n,h=>rfl
 | .bool b,h=>rfl
 | .str s,h=>rfl
 | .nilS,h=>rfl
 | .sl t s l,h=>rfl
 | .rp x,h=>by simp [V.pure] at h
 | .fn f,h=>rfl
 | .lit f,h=>rfl
 | .junk,h=>rfl
theorem V.inqs_pure {π:List Nat}:∀l:List V,V.pures l=true→V.inqs π l=true
 |[],_=>rfl
 |x::l,h=>by
  simp only [V.pures,Bool.and_eq_true] at h;simp only [V.inqs,V.inq_pure x h.1,V.inqs_pure l h.2,Bool.and_self]
end
def xi3 (E:Env) (π:List Nat):Env:=⟨E.B,E.F,π.map fun r=>E.ref.getD r (0,undef)⟩
section
variable {E:Env} {w:World} {π:List Nat}
theorem xkq {r:Nat} (h:π.contains r=true) (hr:r<E.ref.length):(xi3 E π).ref[kF π r]?=E.ref[r]?:=by
 have hm:r∈π:=List.contains_iff_mem.1 h;simp only [xi3,List.getElem?_map,xmq hm,Option.map_some,List.getD_eq_getElem?_getD,List.getElem?_eq_getElem hr,Option.getD_some]
theorem xp7 {r:Nat} (h:π.contains r=true) (hr:r<E.ref.length):kF π r<(xi3 E π).ref.length:=by
 have:=xkq h hr;rw [List.getElem?_eq_getElem hr] at this;exact(List.getElem?_eq_some_iff.1 this).1
mutual
theorem ycu:∀{x:V} {cs:List Value},x.inq π=true→RdV E w x cs→RdV (xi3 E π) w (x.rn π) cs
 | .own r g,cs,hn,h=>by
  simp only [V.inq] at hn;simp only [RdV,V.rn] at h⊢;obtain⟨v,rfl,h1,h2,h3⟩:=h;exact⟨v,rfl,h1,xp7 hn h2,by rw [xkq hn h2];exact h3⟩
 | .ptr r g p o,cs,hn,h=>by
  simp only [V.inq] at hn;simp only [RdV,V.rn] at h⊢;obtain⟨v,rfl,h1,h2,h3⟩:=h;exact⟨v,rfl,h1,xp7 hn h2,by rw [xkq hn h2];exact h3⟩
 | .osl r g s a b,cs,hn,h=>by
  simp only [V.inq] at hn;simp only [RdV,V.rn] at h⊢;obtain⟨v,rfl,h1,h2,h3⟩:=h;exact⟨v,rfl,h1,xp7 hn h2,by rw [xkq hn h2];exact h3⟩
 | .agg l,cs,hn,h=>by
  simp only [V.inq] at hn;simp only [RdV,V.rn] at h⊢;exact xn2 hn h
 | .arr s l,cs,hn,h=>by
  simp only [V.inq] at hn;simp only [RdV,V.rn] at h⊢;exact⟨xn2 hn h.1,ywz h.2⟩
 | .tup l,cs,hn,h=>by simp only [RdV] at h
 | .clo f l,cs,hn,h=>by simp only [RdV] at h
 | .junk,cs,hn,h=>by simp only [RdV] at h
 | .int k n,cs,hn,h=>by simp only [RdV,V.rn] at h⊢;exact h
 | .bool b,cs,hn,h=>by simp only [RdV,V.rn] at h⊢;exact h
 | .str s,cs,hn,h=>by simp only [RdV,V.rn] at h⊢;exact h
 | .nilS,cs,hn,h=>by simp only [RdV,V.rn] at h⊢;exact h
 | .fn f,cs,hn,h=>by simp only [RdV,V.rn] at h⊢;exact h
 | .lit f,cs,hn,h=>by simp only [RdV,V.rn] at h⊢;exact h
 | .sl t s l,cs,hn,h=>by
  simp only [RdV,V.rn] at h⊢;obtain⟨h1,h2,A,c,h3,h4,h5,h6⟩:=h;refine⟨h1,h2,A,c,h3,h4,h5,fun hl=>?_⟩;obtain⟨b,o,xs,k1,k2,k3,k4,k5⟩:=h6 hl;refine⟨b,o,xs,k1,k2,k3,?_,k5⟩;have:=xn2 (inqs_iff.2 fun x hx=>V.inq_pure x (pures_iff.1 h1 x hx)) k4
  rwa [V.rns_pure π l h1] at this
 | .rp x,cs,hn,h=>by
  simp only [RdV,V.rn] at h⊢;obtain⟨h1,b,o,xs,h2,h3,h4,h5⟩:=h;refine⟨h1,b,o,xs,h2,h3,?_,h5⟩;have:=ycu (V.inq_pure x h1) h4
  rwa [V.rn_pure π x h1] at this
theorem xn2:∀{l:List V} {cs:List Value},V.inqs π l=true→RdL E w l cs→RdL (xi3 E π) w (V.rns π l) cs
 |[],cs,hn,h=>by simp only [RdL,V.rns] at h⊢;exact h
 |x::l,cs,hn,h=>by
  simp only [V.inqs,Bool.and_eq_true] at hn;simp only [RdL,V.rns] at h⊢;obtain⟨c,ys,h1,h2,h3⟩:=h;exact⟨c,ys,h1,ycu hn.1 h2,xn2 hn.2 h3⟩
end
end
section
variable {ob:List Ob} {π:List Nat}
end
section
variable {P:Program} {cx:Cx} {N:Nat} {Q:Exit→Act→World→Prop} {k:List It} {n:Nat} {t:List (Nat×V)} {ob:List Ob} {l:List RO}
end
attribute [go_sem] V.inq V.inqs V.rn V.rns
end Rdn.Dp
namespace Rdn.Dp
open Go Go.RowKit Rdn
def xn6 (fl:Bool):OK→OK
 | .box q T=> .box q T
 | .row e=>if fl then .rows true e else .row e
 | .rows q e=> .rows (q||fl) e
def xbg (fl:Bool) (ob:List Ob) (π:List Nat):List Nat→List Ob
 |[]=>[]
 |r::l=>(match ob[r]? with|some o=>⟨xn6 fl o.k,true,0,o.v.mv fun q=>(kF π q,0)⟩|none=>⟨.row 0,true,0,.junk⟩)::xbg fl ob π l
def yJ (ob:List Ob) (rs:List Nat) (r:Nat):Option Nat:=if rs.contains r=true then pX ob r else none
def xfm (ob:List Ob) (π:List Nat):List Nat→Prop
 |[]=>True
 |r::l=>l.contains r=false∧(match ob[r]? with|some o=>o.live=true∧o.v.now (yJ ob π)|none=>False)∧xfm ob π l
def xfn (π:List Nat) (t:List (Nat×V)) (js:List Nat):List (Nat×V):=js.map fun j=>(j,(aV t j).mv fun q=>(kF π q,0))
def xhe (ob:List Ob) (π:List Nat) (t:List (Nat×V)):List Nat→Prop
 |[]=>True
 |j::js=>(aV t j).now (yJ ob π)∧xhe ob π t js
theorem yd2 {ob:List Ob} {π:List Nat} {t:List (Nat×V)}:∀{js:List Nat},xhe ob π t js→∀j∈js,(aV t j).now (yJ ob π)
 |j::js,h,i,hi=>by
  rcases List.mem_cons.1 hi with rfl|hi
  ·exact h.1
  ·exact yd2 h.2 i hi
theorem xs7 {fl:Bool} {ob:List Ob} {π:List Nat}:∀{l:List Nat},(xbg fl ob π l).length=l.length
 |[]=>rfl
 |r::l=>by simp only [xbg,List.length_cons,xs7 (l:=l)]
theorem ycz {fl:Bool} {ob:List Ob} {π:List Nat}:∀{l:List Nat} {p r:Nat} {o:Ob},l[p]?=some r→ob[r]?=some o→(xbg fl ob π l)[p]?=some ⟨xn6 fl o.k,true,0,o.v.mv fun q=>(kF π q,0)⟩
 |[],_,_,_,h,_=>by cases h
 |r'::l,0,r,o,h,ho=>by
  simp only [List.getElem?_cons_zero,Option.some.injEq] at h;subst h;simp only [xbg,ho,List.getElem?_cons_zero]
 |r'::l,p+1,r,o,h,ho=>by
  simp only [List.getElem?_cons_succ] at h;simp only [xbg,List.getElem?_cons_succ];exact ycz h ho
theorem yd0 {ob:List Ob} {π:List Nat}:∀{l:List Nat},xfm ob π l→∀r∈l,∃o:Ob,ob[r]?=some o∧o.live=true∧o.v.now (yJ ob π)
 |r'::l,h,r,hr=>by
  rcases List.mem_cons.1 hr with rfl|hr
  ·have h2:=h.2.1
   cases ho:ob[r]? with
   |none=>rw [ho] at h2;exact h2.elim
   |some o=>rw [ho] at h2;exact⟨o,rfl,h2.1,h2.2⟩
  ·exact yd0 h.2.2 r hr
theorem yd1 {ob:List Ob} {π:List Nat}:∀{l:List Nat},xfm ob π l→l.Nodup
 |[],_=>List.nodup_nil
 |r::l,h=>List.nodup_cons.2 ⟨fun hm=>by have:=h.1;simp [hm] at this,yd1 h.2.2⟩
def vG (E:Env) (rs:List Nat):Env:=⟨E.B,E.F,rs.map fun r=>(0,(E.ref.getD r (0,undef)).2)⟩
theorem xkr {E:Env} {rs:List Nat} {p r g:Nat} {u:Value} (hp:rs[p]?=some r) (hu:E.ref[r]?=some (g,u)):(vG E rs).ref[p]?=some (0,u):=by
 simp [vG,hp,List.getD_eq_getElem?_getD,hu]
theorem xwx {ob:List Ob} {rs:List Nat} {r g:Nat} (h:yJ ob rs r=some g):r∈rs∧∃o,ob[r]?=some o∧o.g=g:=by
 unfold yJ at h;split at h
 ·rename_i hc
  exact⟨by simpa using hc,xwv h⟩
 ·cases h
theorem Rel.reset {cx:Cx} {E:Env} {σ:AS} {a:Act} {w:World} (R:Rel cx E σ a w) (fl:Bool) (π js:List Nat) (hs:xfm σ.ob π π) (hj:xhe σ.ob π σ.t js):Rel cx (vG E π) ⟨σ.n,xfn π σ.t js,xbg fl σ.ob π π⟩ a w:=by
 have hr:∀r g u,yJ σ.ob π r=some g→E.ref[r]?=some (g,u)→(vG E π).ref[((fun q=>(kF π q,0)) r:Nat×Nat).1]?=some (((fun q=>(kF π q,0)) r:Nat×Nat).2,u):=fun r g u h hu=>xkr (xmq (xwx h).1) hu;have hγ:∀(r g:Nat),yJ σ.ob π r=some g→∃u:Value,E.ref[r]?=some (g,u):=fun r g h=>by
  obtain⟨_,o,ho,rfl⟩:=xwx h;obtain⟨u,h1,_⟩:=R.ob r o ho;exact⟨u,h1⟩
 have hB:∀b,E.B b→(vG E π).B b:=fun _ h=>h;have at_:∀(p:Nat) (o:Ob),(xbg fl σ.ob π π)[p]?=some o→∃(r:Nat) (o0:Ob) (u:Value),π[p]?=some r∧σ.ob[r]?=some o0∧o0.live=true∧o0.v.now (yJ σ.ob π)∧o=⟨xn6 fl o0.k,true,0,o0.v.mv fun q=>(kF π q,0)⟩∧E.ref[r]?=some (o0.g,u)∧OkO cx E w o0 u:=by
  intro p o h;have hp:p<π.length:=by
   have:=(List.getElem?_eq_some_iff.1 h).1
   rwa [xs7] at this
  obtain⟨o0,h1,h2,h3⟩:=yd0 hs π[p] (List.getElem_mem hp);have hp':π[p]?=some π[p]:=List.getElem?_eq_getElem hp;have:=ycz (fl:=fl) (π:=π) hp' h1;rw [h] at this;obtain⟨u,k1,k2⟩:=R.ob _ _ h1;exact⟨_,o0,u,hp',h1,h2,h3,Option.some.inj this,k1,k2⟩
 have slot:∀(i:Nat) (ks:List Nat),(∀j∈ks,(aV σ.t j).now (yJ σ.ob π))→RdT (vG E π) w (aV (xfn π σ.t ks) i) (a.tmps.getD i undef):=by
  intro i ks
  induction ks with
  |nil=>intro _;simp only [xfn,List.map_nil,aV,RdT]
  |cons j ks ih=>
   intro hks;simp only [xfn,List.map_cons,aV];by_cases e:j=i
   ·rw [if_pos e]
    subst e;exact xmb (E0:=vG E π) hB hr hγ (hks j ξ) (R.tm j)
   ·rw [if_neg e]
    exact ih (fun q hq=>hks q (by simp [hq]))
 refine⟨R.df,R.n,fun i=>slot i js (yd2 hj),by simp [vG,xs7],fun p o hp=>?_,fun p p' o o' g g' u u' b hne hp hp' _ _ hu hu' hb hb'=>?_,R.lt,R.fr,R.old,R.keep⟩
 ·obtain⟨r,o0,u,h1,h2,h3,h4,rfl,h6,h7⟩:=at_ p o hp
  refine⟨u,xkr h1 h6,?_⟩;have hnB:=fun b hb=>h7.live_B (b:=b) h3 hb;obtain⟨kk,lv,g,v⟩:=o0;dsimp only at h3 h4 hnB;subst h3;cases kk with
  |box q T=>
   unfold OkO at h7⊢;obtain⟨b,cs,rfl,m2,m3,m4,m5⟩:=h7;exact⟨b,cs,rfl,m2,xb4 (E0:=vG E π) hB hr hγ h4 m3,m4,by rw [if_pos rfl] at m5⊢;exact m5⟩
  |row e=>
   have hw0:=fun b hb=>h7.wr (b:=b) hb;unfold OkO at h7;obtain⟨s,l,ys,m1,m2,m3,m4,m5,m6,m7,m8⟩:=h7;dsimp only at m1 m8;subst m1;have hlen:(V.mvs (fun q=>(kF π q,0)) l).length=l.length:=by rw [rH,List.length_map]
   have h4':V.nows (yJ σ.ob π) l:=by simpa only [V.now] using h4
   have m7':=yR (E0:=vG E π) hB hr hγ h4' m7;cases fl with
   |true=>
    show OkO cx (vG E π) w ⟨.rows true e,true,0,.arr s (V.mvs _ l)⟩ u;unfold OkO;exact⟨rfl,s,_,ys,rfl,xag m3,m4,ω,by rw [hlen];exact xb7 m6 fun _ _=>Nat.zero_le _,m7',fun b hb=>⟨hnB b hb,hw0 b hb⟩⟩
   |false=>
    show OkO cx (vG E π) w ⟨.row e,true,0,.arr s (V.mvs _ l)⟩ u;unfold OkO;exact⟨s,_,ys,rfl,by rw [V.mvs_pure _ _ m2,V.lows_pures];exact m2,xag m3,m4,ω,by rw [hlen];exact m6,m7',m8⟩
  |rows q e=>
   unfold OkO at h7;obtain⟨m0,s,l,ys,m1,m3,m4,m5,m6,m7,m8⟩:=h7;dsimp only at m1 m8;subst m1;have hlen:(V.mvs (fun q=>(kF π q,0)) l).length=l.length:=by rw [rH,List.length_map]
   have h4':V.nows (yJ σ.ob π) l:=by simpa only [V.now] using h4
   have m7':=yR (E0:=vG E π) hB hr hγ h4' m7;show OkO cx (vG E π) w ⟨.rows (q||fl) e,true,0,.arr s (V.mvs _ l)⟩ u;unfold OkO;refine⟨rfl,s,_,ys,rfl,xag m3,m4,ω,?_,m7',m8⟩;rw [hlen];cases q with
   |true=>exact m6
   |false=>
    cases fl with
    |true=>exact xb7 m6 fun _ _=>Nat.zero_le _
    |false=>exact m6
 ·obtain⟨r,o0,v,h1,h2,h3,h4,rfl,h6,h7⟩:=at_ p o hp
  obtain⟨r',o0',v',k1,k2,k3,k4,rfl,k6,k7⟩:=at_ p' o' hp';rw [xkr h1 h6] at hu;rw [xkr k1 k6] at hu';simp only [Option.some.injEq,Prod.mk.injEq] at hu hu';obtain⟨_,rfl⟩:=hu;obtain⟨_,rfl⟩:=hu';refine R.sep r r' o0 o0' _ _ _ _ b (fun e=>hne ?_) h2 k2 h3 k3 h6 k6 hb hb';subst e;have q1:=(List.getElem?_eq_some_iff.1 h1).1;exact(List.getElem?_inj q1 (yd1 hs)).1 (h1.trans k1.symm)
section
variable {P:Program} {cx:Cx} {N:Nat} {Q:Exit→Act→World→Prop} {k:List It} {n:Nat} {t:List (Nat×V)} {ob:List Ob} {l:List RO}
theorem dS (fl:Bool) (π js:List Nat) (hs:xfm ob π π) (hj:xhe ob π t js) (h:Ev P cx N Q k ⟨n,xfn π t js,xbg fl ob π π⟩):Ev P cx N Q k ⟨n,t,ob⟩:=
 ⟨fun hn E a w R=>h.h hn (vG E π) a w (R.reset fl π js hs hj)⟩
theorem xwc (fl:Bool) (π js:List Nat) (hs:xfm ob π π) (hj:xhe ob π t js) (h:EvR P cx N Q k l ⟨n,xfn π t js,xbg fl ob π π⟩):EvR P cx N Q k l ⟨n,t,ob⟩:=
 ⟨fun hn E a w R=>h.h hn (vG E π) a w (R.reset fl π js hs hj)⟩
end
attribute [go_sem] xn6 xbg yJ xfm xfn xhe Bool.or_true Bool.or_false Bool.false_or Bool.true_or
end Rdn.Dp
namespace Rdn.Dp
open Go Go.RowKit Rdn
section
variable {P:Program} {cx:Cx} {E E':Env} {σ σ':AS} {a:Act} {w w':World} {N:Nat} {Q:Exit→Act→World→Prop} {k:List It} {l:List RO} {n:Nat} {t:List (Nat×V)} {ob:List Ob}
theorem ylu {rs:List Nat} (h:∀r∈rs,σ'.ob[r]?=σ.ob[r]?):sV σ' rs=sV σ rs:=by
 funext r;unfold sV pX;split
 ·rename_i hc;rw [h r (by simpa using hc)]
 ·rfl
theorem ydn {rs:List Nat}:∀{l:List Nat},(∀r∈l,σ'.ob[r]?=σ.ob[r]?)→vV σ' rs l=vV σ rs l
 |[],_=>rfl
 |r::l,h=>by
  simp only [vV];rw [h r ξ,ydn (l:=l) fun q hq=>h q (by simp [hq])]
theorem ydo {rs:List Nat} (h0:∀r∈rs,σ'.ob[r]?=σ.ob[r]?):∀{l:List Nat},(∀r∈l,σ'.ob[r]?=σ.ob[r]?)→zB σ rs l→zB σ' rs l
 |[],_,_=>trivial
 |r::l,h,k=>by
  simp only [zB] at k⊢;rw [h r ξ,ylu h0];exact⟨k.1,k.2.1,ydo h0 (fun q hq=>h q (by simp [hq])) k.2.2⟩
theorem yaz:∀{l:List Nat},(∀r∈l,σ'.ob[r]?=σ.ob[r]?)→xb5 σ l→xb5 σ' l
 |[],_,_=>trivial
 |r::l,h,k=>by
  simp only [xb5] at k⊢;rw [h r ξ];exact⟨k.1,yaz (fun q hq=>h q (by simp [hq])) k.2⟩
theorem xwq:∀{l:List Nat},(∀r∈l,σ'.ob[r]?=σ.ob[r]?)→xa0 σ' l=xa0 σ l
 |[],_=>rfl
 |r::l,h=>by
  simp only [xa0];rw [h r ξ,xwq (l:=l) fun q hq=>h q (by simp [hq])]
theorem xxg:∀{l:List Nat} {os:List Ob},(∀r∈l,σ'.ob[r]?=σ.ob[r]?)→yL σ l os→yL σ' l os
 |[],_,_,_=>trivial
 |r::l,[],_,k=>k
 |r::l,o::os,h,k=>by
  simp only [yL] at k⊢;rw [h r ξ];exact⟨k.1,k.2.1,xxg (fun q hq=>h q (by simp [hq])) k.2.2⟩
def qJ (f:Nat→Ob→Ob):List Nat→List Ob→List (Nat×Ob)→List (Nat×Ob)
 |r::l,u::us,acc=>qJ f l us ((r,f r u)::acc)
 |_,_,acc=>acc
theorem ydp {f:Nat→Ob→Ob} {h:Ob→Ob}:∀{rs:List Nat} {us:List Ob} {acc:List (Nat×Ob)} {ob:List Ob},us.length=rs.length→mM f h rs us (lN acc ob)=lN (qJ f rs us acc) ob
 |[],[],acc,ob,_=>by simp [mM,qJ]
 |r::l,u::us,acc,ob,hl=>by
  have ih:=ydp (f:=f) (h:=h) (rs:=l) (us:=us) (acc:=(r,f r u)::acc) (ob:=ob) (by simpa using hl);simp only [mM,qJ];rw [←ih];rfl
theorem xnv {f:Nat→Ob→Ob}:∀{rs:List Nat} {us:List Ob} {acc:List (Nat×Ob)} {p:Nat×Ob},p∈qJ f rs us acc→p∈acc∨p.1∈rs
 |[],_,acc,p,h=>by simp only [qJ] at h;exact .inl h
 |r::l,[],acc,p,h=>by simp only [qJ] at h;exact .inl h
 |r::l,u::us,acc,p,h=>by
  simp only [qJ] at h;rcases xnv h with h|h
  ·rcases List.mem_cons.1 h with rfl|h
   ·exact .inr ξ
   ·exact .inl h
  ·exact .inr (by simp [h])
theorem yfk {f f':Nat→Ob→Ob}:∀{rs:List Nat} {us:List Ob} {acc:List (Nat×Ob)},(∀r∈rs,f r=f' r)→qJ f rs us acc=qJ f' rs us acc
 |[],_,acc,_=>by simp only [qJ]
 |r::l,[],acc,_=>by simp only [qJ]
 |r::l,u::us,acc,h=>by
  simp only [qJ];rw [h r ξ];exact yfk fun q hq=>h q (by simp [hq])
theorem xmy {x y:V} (hxy:∀cs,RdV E w x cs→RdV E w y cs):∀{l:List V} {j:Nat} {cs:List Value},l[j]?=some x→RdL E w l cs→RdL E w (l.set j y) cs
 |a::l,0,cs,hj,h=>by
  simp only [List.getElem?_cons_zero,Option.some.injEq] at hj;subst hj;simp only [RdL,List.set_cons_zero] at h⊢;obtain⟨c,ys,h1,h2,h3⟩:=h;exact⟨c,ys,h1,hxy c h2,h3⟩
 |a::l,j+1,cs,hj,h=>by
  simp only [List.getElem?_cons_succ] at hj;simp only [RdL,List.set_cons_succ] at h⊢;obtain⟨c,ys,h1,h2,h3⟩:=h;exact⟨c,ys,h1,h2,xmy hxy hj h3⟩
 |[],j,cs,hj,h=>by simp at hj
theorem ycf {x:V}:∀{l:List V} {j:Nat} {cs:List Value},l[j]?=some x→RdL E w l cs→∃c,RdV E w x c
 |a::l,0,cs,hj,h=>by
  simp only [List.getElem?_cons_zero,Option.some.injEq] at hj;subst hj;simp only [RdL] at h;obtain⟨c,ys,h1,h2,h3⟩:=h;exact⟨c,h2⟩
 |a::l,j+1,cs,hj,h=>by
  simp only [List.getElem?_cons_succ] at hj;simp only [RdL] at h;obtain⟨c,ys,h1,h2,h3⟩:=h;exact ycf hj h3
 |[],j,cs,hj,h=>by simp at hj
def qC (σ:AS) (r0:Nat) (o0:Ob) (l0:List V) (j:Nat) (u:Value):AS:={σ with ob:=σ.ob.set r0 ⟨o0.k,o0.live,o0.g,.agg (l0.set j (.lit u))⟩}
theorem ycn {r:Nat} {o:Ob} {v:V} (R:Rel cx E σ a w) (hr:σ.ob[r]?=some o) (hb:∃q T,o.k=.box q T) (hl:o.live=true) (h:∀cs,RdV E w o.v cs→RdV E w v cs):Rel cx E {σ with ob:=σ.ob.set r ⟨o.k,o.live,o.g,v⟩} a w:=by
 obtain⟨q,T,hb⟩:=hb;obtain⟨kk,lv,g,v0⟩:=o;dsimp only at hb hl h;subst hb hl;obtain⟨n,t,ob⟩:=σ;refine R.kind hr rfl rfl fun u ho=>?_;unfold OkO at ho⊢;obtain⟨b,cs,m1,m2,m3,m4,m5⟩:=ho;exact⟨b,cs,m1,m2,h cs m3,m4,by rw [if_pos rfl] at m5⊢;exact m5⟩
end
theorem yat:∀{n:Nat} {l:List Ob},l.length≤n→xcx n l
 |_,[],_=>by cases ‹Nat›<;>trivial
 |0,o::l,h=>by simp at h
 |n+1,_::l,h=>yat (n:=n) (l:=l) (by simpa using h)
theorem xww {k k':OK} {b b':Bool} {g:Nat} {v v':V} {l:List Ob}:pX (⟨k,b,g,v⟩::l)=pX (⟨k',b',g,v'⟩::l):=by
 funext r;cases r<;>rfl
theorem xnu {f:Nat→Ob→Ob}:∀{rs:List Nat} {us:List Ob} {acc:List (Nat×Ob)},qJ f rs us acc=qJ f rs us []++acc
 |[],_,acc=>by simp only [qJ,List.nil_append]
 |r::l,[],acc=>by simp only [qJ,List.nil_append]
 |r::l,u::us,acc=>by
  simp only [qJ];rw [xnu (acc:=(r,f r u)::acc),xnu (acc:=[(r,f r u)])];simp
theorem yds (ws acc:List (Nat×Ob)) (ob:List Ob):lN (ws++acc) ob=lN ws (lN acc ob):=by
 simp [lN]
theorem ydt:∀(ws:List (Nat×Ob)) (ob:List Ob),(lN ws ob).length=ob.length
 |[],_=>rfl
 |p::ws,ob=>by
  have ih:=ydt ws ob;unfold lN at ih⊢;simp [ih]
def wsP (σ:AS) (r0:Nat) (rl:List Nat) (o0:Ob) (lB:List V) (j:Nat) (own:V) (obB:List Ob):List (Nat×Ob):=
 qJ (uM σ (r0::rl) (⟨.box true 0,true,0,.junk⟩::obB)) rl obB [(r0,⟨o0.k,true,o0.g,.agg ((V.mvs (jI σ (r0::rl) (⟨.box true 0,true,0,.junk⟩::obB)) lB).set j own)⟩)]
section
variable {P:Program} {σ:AS}
theorem xl3 {f:FuncId} {xs:List X} (r0:Nat) (rl:List Nat) (p gp j:Nat) {q0:Bool} {T:TypeId} {g0:Nat} {l0 lB:List V} {op:Ob} {ys:List V} {x:V} {bM:Value→List Ob} {obB:List Ob}
  (hF:∀u:Value,FncI P f (bM u) ys (fun y o=>y=x∧o=⟨.box true T,true,0,.agg (lB.set j (.lit u))⟩::obB))
  (k0:σ.ob[r0]?=some ⟨.box q0 T,true,g0,.agg l0⟩) (hj:l0[j]?=some (.own p gp)) (hjB:j<lB.length) (kp:σ.ob[p]?=some op) (hgp:op.g=gp) (hp:(r0::rl).contains p=false)
  (hA:∀u,vV (qC σ r0 ⟨.box q0 T,true,g0,.agg l0⟩ l0 j u) (r0::rl) (r0::rl)=bM u)
  (hs:∀u,zB (qC σ r0 ⟨.box q0 T,true,g0,.agg l0⟩ l0 j u) (r0::rl) (r0::rl)) (hv:xb5 σ rl)
  (hn:V.nows (sV σ (r0::rl)) (xs.map (X.ev σ))) (hy:V.mvs (fun q=>(kF (r0::rl) q,0)) (xs.map (X.ev σ))=ys)
  (hk:yL σ rl obB) (hlen:obB.length=rl.length) (ho:∀u,xe8 (pX (⟨.box true T,true,0,.agg (lB.set j (.lit u))⟩::obB)) (⟨.box true T,true,0,.agg (lB.set j (.lit u))⟩::obB)) (hx:x.now (pX (⟨.box true T,true,0,.junk⟩::obB))):
  GenL P σ (.call f xs) (x.mv (jI σ (r0::rl) (⟨.box true 0,true,0,.junk⟩::obB))) (p::r0::rl) (wsP σ r0 rl ⟨.box q0 T,true,g0,.agg l0⟩ lB j (.own p gp) obB):=by
 refine⟨fun q hq=>?_,fun σ' hev hob hlo {cx E a w o} R hc S hS=>?_⟩
 ·rcases xnv hq with hq|hq
  ·simp at hq;subst hq;simp
  ·exact List.mem_cons_of_mem _ (List.mem_cons_of_mem _ hq)
 ·have hobr:∀r∈r0::rl,σ'.ob[r]?=σ.ob[r]?:=fun r hr=>hob r (List.mem_cons_of_mem _ hr)
  have k0':σ'.ob[r0]?=some ⟨.box q0 T,true,g0,.agg l0⟩:=by rw [hobr r0 ξ];exact k0
  have kp':σ'.ob[p]?=some op:=by rw [hob p ξ];exact kp
  have hrl:r0∉rl:=by
   have:=(hs (.bool true)).1;simpa using this
  have hr0:r0<σ.ob.length:=(List.getElem?_eq_some_iff.1 k0).1;have hr0':r0<σ'.ob.length:=(List.getElem?_eq_some_iff.1 k0').1;obtain⟨u,hu1,-⟩:=R.ob p op kp';rw [hgp] at hu1;have own_lit:∀cs,RdV E w (.own p gp) cs→cs=[u]∧u.oneCell'=true:=by
   intro cs h;simp only [RdV] at h;obtain⟨v,rfl,h1,h2,h3⟩:=h;obtain rfl:=(h3 gp u hu1).2 rfl;exact⟨rfl,h1⟩
  have hone:u.oneCell'=true:=by
   obtain⟨ub,hub1,hub2⟩:=R.ob r0 _ k0';unfold OkO at hub2;obtain⟨b,cs,m1,m2,m3,m4,m5⟩:=hub2;simp only [RdV] at m3;obtain⟨c,hc1⟩:=ycf hj m3;exact(own_lit c hc1).2
  have R2:Rel cx E (qC σ' r0 ⟨.box q0 T,true,g0,.agg l0⟩ l0 j u) a w:=ycn R k0' ⟨q0,T,rfl⟩ rfl (fun cs h=>by
   simp only [RdV] at h⊢;exact xmy (fun cs h'=>by obtain⟨rfl,h2⟩:=own_lit cs h';simp only [RdV];exact⟨trivial,h2⟩) hj h)
  have hag:∀r∈r0::rl,(qC σ' r0 ⟨.box q0 T,true,g0,.agg l0⟩ l0 j u).ob[r]?=(qC σ r0 ⟨.box q0 T,true,g0,.agg l0⟩ l0 j u).ob[r]?:=by
   intro r hr;unfold qC;by_cases e:r0=r
   ·subst e
    simp only [List.getElem?_set_self hr0,List.getElem?_set_self hr0']
   ·simp only [List.getElem?_set_ne e]
    exact hobr r hr
  have hagl:∀r∈rl,(qC σ' r0 ⟨.box q0 T,true,g0,.agg l0⟩ l0 j u).ob[r]?=σ.ob[r]?:=by
   intro r hr;unfold qC;have e:r0≠r:=fun e=>hrl (e▸hr);simp only [List.getElem?_set_ne e];exact hobr r (List.mem_cons_of_mem _ hr)
  have hag0:(qC σ' r0 ⟨.box q0 T,true,g0,.agg l0⟩ l0 j u).ob[r0]?=some ⟨.box q0 T,true,g0,.agg (l0.set j (.lit u))⟩:=by
   unfold qC;simp only [List.getElem?_set_self hr0']
  have hgens:sV (qC σ' r0 ⟨.box q0 T,true,g0,.agg l0⟩ l0 j u) (r0::rl)=sV σ (r0::rl):=by
   funext r;unfold sV pX;split
   ·rename_i hc2
    have hm:r∈r0::rl:=by simpa using hc2
    rcases List.mem_cons.1 hm with rfl|hm
    ·rw [hag0,k0]
    ·rw [hagl r hm]
   ·rfl
  have hnewG:∀r∈r0::rl,xM (qC σ' r0 ⟨.box q0 T,true,g0,.agg l0⟩ l0 j u) r=xM σ r:=by
   intro r hr;unfold xM;rcases List.mem_cons.1 hr with rfl|hr
   ·rw [hag0,k0]
   ·rw [hagl r hr]
  have hfresh:xa0 (qC σ' r0 ⟨.box q0 T,true,g0,.agg l0⟩ l0 j u) (r0::rl)=xa0 σ (r0::rl):=by
   simp only [xa0];rw [hag0,k0,xwq hagl]
  have hplen:(qC σ' r0 ⟨.box q0 T,true,g0,.agg l0⟩ l0 j u).ob.length=σ.ob.length:=by unfold qC;simp [hlo]
  have hback:jI (qC σ' r0 ⟨.box q0 T,true,g0,.agg l0⟩ l0 j u) (r0::rl) (⟨.box true T,true,0,.agg (lB.set j (.lit u))⟩::obB)=jI σ (r0::rl) (⟨.box true 0,true,0,.junk⟩::obB):=by
   funext q;unfold jI;split
   ·rename_i r hr;rw [hnewG r (List.mem_of_getElem? hr)]
   ·rw [hplen,xww (k':=.box true 0) (b':=true) (v':=.junk)]
  have hevs:xs.map (X.ev (qC σ' r0 ⟨.box q0 T,true,g0,.agg l0⟩ l0 j u))=xs.map (X.ev σ):=List.map_congr_left fun y hy=>by
   rw [←hev y hy];cases y<;>rfl
  obtain⟨aas,hxs,hrun⟩:=wC hc a;unfold pO;rw [hrun w];refine(xob R2 hxs (hF u) hevs (ydo hag hag (hs u)) (yaz hagl hv) (by rw [hgens];exact hn) hy (by rw [ydn hag];exact hA u)).mono ?_
  rintro e w' ⟨x',ob1,v,⟨rfl,rfl⟩,rfl,hb⟩
  obtain⟨E',L,hx',R'⟩:=hb (by
   simp only [yL];rw [hag0];exact⟨rfl,trivial,xxg hagl hk⟩) (ho u) (yat (by simp [hlen])) (by rw [xww (k':=.box true T) (b':=true) (v':=.junk)];exact hx)
  rw [hback] at hx';refine⟨v,rfl,hS v w' E' L hx' ?_⟩;have hbk0:uM (qC σ' r0 ⟨.box q0 T,true,g0,.agg l0⟩ l0 j u) (r0::rl) (⟨.box true T,true,0,.agg (lB.set j (.lit u))⟩::obB) r0 ⟨.box true T,true,0,.agg (lB.set j (.lit u))⟩=⟨.box q0 T,true,g0,.agg ((V.mvs (jI σ (r0::rl) (⟨.box true 0,true,0,.junk⟩::obB)) lB).set j (.lit u))⟩:=by
   unfold uM;rw [hag0,hback,hnewG r0 ξ];simp only [xM,k0,xen,V.mv,rH,List.map_set]
  have hbkl:∀r∈rl,uM (qC σ' r0 ⟨.box q0 T,true,g0,.agg l0⟩ l0 j u) (r0::rl) (⟨.box true T,true,0,.agg (lB.set j (.lit u))⟩::obB) r=uM σ (r0::rl) (⟨.box true 0,true,0,.junk⟩::obB) r:=by
   intro r hr;funext o;unfold uM;rw [hagl r hr,hback,hnewG r (List.mem_cons_of_mem _ hr),hfresh]
  have hob1:yC (qC σ' r0 ⟨.box q0 T,true,g0,.agg l0⟩ l0 j u) (r0::rl) (⟨.box true T,true,0,.agg (lB.set j (.lit u))⟩::obB)=(lN (qJ (uM σ (r0::rl) (⟨.box true 0,true,0,.junk⟩::obB)) rl obB []) σ'.ob).set r0 ⟨.box q0 T,true,g0,.agg ((V.mvs (jI σ (r0::rl) (⟨.box true 0,true,0,.junk⟩::obB)) lB).set j (.lit u))⟩:=by
   unfold yC;simp only [mM];rw [hbk0];have e1:∀X:Ob,(qC σ' r0 ⟨.box q0 T,true,g0,.agg l0⟩ l0 j u).ob.set r0 X=lN [(r0,X)] σ'.ob:=fun X=>by
    unfold qC lN;simp
   rw [e1,ydp hlen,yfk hbkl,xnu,yds];show lN _ (σ'.ob.set r0 _)=_;refine xsn (fun q hq=>?_) _;rcases xnv hq with hq|hq
   ·cases hq
   ·exact fun e=>hrl (e▸hq)
  have R3:Rel cx E' {σ' with ob:=(lN (qJ (uM σ (r0::rl) (⟨.box true 0,true,0,.junk⟩::obB)) rl obB []) σ'.ob).set r0 ⟨.box q0 T,true,g0,.agg ((V.mvs (jI σ (r0::rl) (⟨.box true 0,true,0,.junk⟩::obB)) lB).set j (.lit u))⟩} a w':=by
   rw [←hob1];exact R'
  have hpl:p<E.ref.length:=(List.getElem?_eq_some_iff.1 hu1).1;have hM:j<(V.mvs (jI σ (r0::rl) (⟨.box true 0,true,0,.junk⟩::obB)) lB).length:=by rw [rH,List.length_map];exact hjB
  have R4:=ycn (r:=r0) (o:=⟨.box q0 T,true,g0,.agg ((V.mvs (jI σ (r0::rl) (⟨.box true 0,true,0,.junk⟩::obB)) lB).set j (.lit u))⟩) (v:=.agg ((V.mvs (jI σ (r0::rl) (⟨.box true 0,true,0,.junk⟩::obB)) lB).set j (.own p gp))) R3 (List.getElem?_set_self (by rw [ydt];exact hr0')) ⟨q0,T,rfl⟩ rfl (fun cs h=>by
   simp only [RdV] at h⊢;have h2:=xmy (x:=.lit u) (y:=.own p gp) (fun cs h'=>by
    simp only [RdV] at h'⊢;obtain⟨rfl,h3⟩:=h';refine⟨u,rfl,h3,Nat.lt_of_lt_of_le hpl L.len,fun gc u2 h4=>?_⟩;obtain⟨g1,u1,h5,h6,h7⟩:=L.ref p gc u2 hpl h4;rw [hu1] at h5;simp only [Option.some.injEq,Prod.mk.injEq] at h5;obtain⟨rfl,rfl⟩:=h5;exact⟨h6,h7⟩) (List.getElem?_set_self hM) h
   rwa [List.set_set] at h2)
  have e2:lN (wsP σ r0 rl ⟨.box q0 T,true,g0,.agg l0⟩ lB j (.own p gp) obB) σ'.ob=((lN (qJ (uM σ (r0::rl) (⟨.box true 0,true,0,.junk⟩::obB)) rl obB []) σ'.ob).set r0 ⟨.box q0 T,true,g0,.agg ((V.mvs (jI σ (r0::rl) (⟨.box true 0,true,0,.junk⟩::obB)) lB).set j (.lit u))⟩).set r0 ⟨.box q0 T,true,g0,.agg ((V.mvs (jI σ (r0::rl) (⟨.box true 0,true,0,.junk⟩::obB)) lB).set j (.own p gp))⟩:=by
   unfold wsP;rw [xnu,yds,List.set_set];show lN _ (σ'.ob.set r0 _)=_;refine xsn (fun q hq=>?_) _;rcases xnv hq with hq|hq
   ·cases hq
   ·exact fun e=>hrl (e▸hq)
  rw [e2];exact R4
end
section
variable {P:Program} {cx:Cx} {E E':Env} {σ:AS} {a:Act} {w w':World}
theorem xl4 {r g r2 g2 s e lo hi:Nat} {kk k2:OK} {q M:List V} {x y:X} (hx:x.ev σ=.osl r g s lo hi) (hk:∃p,kk=.rows p e) (hk2:(∃e,k2=.row e)∨∃p e,k2=.rows p e) (k1:σ.ob[r]?=some ⟨kk,true,g,.arr s q⟩) (hy0:y.ev σ=.own r2 g2) (kM:σ.ob[r2]?=some ⟨k2,true,g2,.arr s M⟩) (hne:r2≠r) (hlo:lo≤hi) (hhi:hi≤q.length):
  Gen P σ (.m (.copy e s x y)) (.int .i64 (Nat.min M.length (hi-lo):Nat)) [r,r2] (some (r,⟨kk,true,g,.arr s (over q lo (M.take (hi-lo)))⟩)):=by
 have hkk:(∃e,kk=.row e)∨∃p e,kk=.rows p e:=by
  obtain⟨p,h⟩:=hk;exact .inr ⟨p,e,h⟩
 refine Gen.of (fun _ _ h=>by injection h with h;injection h with h;subst h;simp) (fun σ' hev hob {cx E a w o} R hc=>?_);obtain⟨x0,y0,t,i,e1,e2,e3,e6,e7,e8,rfl⟩:=yhy hc;have q1:σ'.ob[r]?=some ⟨kk,true,g,.arr i.size q⟩:=by rw [hob r ξ];exact k1
 have run:∀{v' w'},(Builtin.copy_ #[t,t] o.type #[a.eval x0,a.eval y0]).run P w=.ok v' w'→(execOp a.eval o).run P w=.ok (.value v') w':=by
  intro v' w' hr;simp only [execOp,e1,resolve,invoke,builtin,Sem.run_bind,Sem.run_pure,Result.andThen_ok,List.map_toArray,List.map_cons,List.map_nil,hr]
 have hX:=dX R e7;have hY:=dX R e8;rw [hev x (by simp [jV]),hx] at hX;rw [hev y (by simp [jV])] at hY;obtain⟨e0,u,xs,he0,hu,hU,hs0,hql,hown,hrd,hpu,hB⟩:=R.rowAt hkk q1;obtain⟨A,n,c,A',f1,f2,f3,f4,f5,f6⟩:=xs1 hX hu;have q2:σ'.ob[r2]?=some ⟨k2,true,g2,.arr i.size M⟩:=by rw [hob r2 ξ];exact kM
 rw [hy0] at hY;have hsw:mO σ' r (.own r2 g2)=(M,i.size,True∧r2≠r):=by
  simp only [mO,gG,q2];rcases hk2 with ⟨e2,rfl⟩|⟨p2,e2,rfl⟩<;>simp
 obtain⟨A2,m2,c2,ys,g1,g1',g3,g4,g4',g5⟩:=ye7 (s:=i.size) R hY (by rw [hsw];exact⟨trivial,hne⟩) (by rw [hsw];exact .inr rfl);rw [hsw] at g1' g3 g4;dsimp only at g1' g3 g4;subst g1';have hrows:¬∃e,kk=.row e:=by
  obtain⟨p,rfl⟩:=hk
  rintro⟨e,h⟩
  cases h
 have hmin:(M.take (hi-lo)).length=Nat.min M.length (hi-lo):=by rw [List.length_take];exact Nat.min_comm _ _
 by_cases h0:0<(M.take (hi-lo)).length
 ·have h0':=h0
  rw [List.length_take] at h0';have k:=g4.cutAt g3 (Nat.min M.length (hi-lo)) (Nat.min_le_left _ _);have htk:M.take (Nat.min M.length (hi-lo))=M.take (hi-lo):=by
   rcases Nat.le_total M.length (hi-lo) with h|h
   ·rw [show Nat.min M.length (hi-lo)=M.length from Nat.min_eq_left h,List.take_of_length_le (Nat.le_refl _),List.take_of_length_le h]
   ·rw [show Nat.min M.length (hi-lo)=hi-lo from Nat.min_eq_right h]
  rw [htk] at k;obtain⟨gb,cur,T,cap,d1,d2,d3,d4,L,R'⟩:=R.over (j:=lo) hkk q1 hu hU k.1 (g3.take _) (fun hr=>absurd hr hrows) (by rw [List.length_take];omega) h0;rw [f1] at d1;injection d1 with d1 _ d5
  subst d1 d5;obtain⟨b2,o2,rfl,ha⟩:=g5 ω;have hA':A'=some ⟨gb,lo*i.size,none⟩:=by rw [f6 ω];simp [Addr.add_lit]
  have hcl:(ys.take (Nat.min M.length (hi-lo)*i.size)).length=Nat.min M.length (hi-lo)*i.size:=by
   rw [k.1.len,wP (g3.take _),hmin,Nat.mul_comm]
  have hr:=yti (P:=P) w (ty:=o.type) e2 e3 gb (lo*i.size) (hi-lo) (c-lo) ⟨b2,o2,none⟩ M.length c2 cur T _ d2 hcl (fun j v hj=>by
   rw [xdj];rw [List.getElem?_take] at hj;split at hj
   ·exact ha j v hj
   ·cases hj) d3 k.1.one
  refine⟨.int .i64 (Nat.min M.length (hi-lo):Nat),_,E,.inl (run ?_),L,?_,R'⟩
  ·rw [f2,g1,hA']
   exact hr
  ·refine oC ⟨?_,?_⟩
   ·simp only [IntKind.min,IntKind.signed,IntKind.bits,if_true];omega
   ·have:Nat.min M.length (hi-lo)≤hi-lo:=Nat.min_le_right _ _
    simp only [IntKind.max,IntKind.signed,IntKind.bits,if_true];omega
 ·have hM0:M.take (hi-lo)=[]:=List.eq_nil_of_length_eq_zero ω
  have hz:Nat.min M.length (hi-lo)=0:=by rw [←hmin,hM0];rfl
  have hr:=ytj (P:=P) w (ty:=o.type) e2 e3 A' A2 (hi-lo) (c-lo) M.length c2 hz;refine⟨.int .i64 (Nat.min M.length (hi-lo):Nat),w,E,.inl (run ?_),Leads.refl _ _,?_,?_⟩
  ·rw [f2,g1,hz]
   exact hr
  ·rw [hz]
   exact oC (by constructor<;>decide)
  ·rw [hM0,xjh]
   show Rel cx E {σ' with ob:=σ'.ob.set r _} a w;rw [xsk q1];exact R
end
section
variable {P:Program} {cx:Cx} {σ:AS} {N:Nat} {Q:Exit→Act→World→Prop} {k:List It} {l:List RO}
theorem xdt {d:Option Nat} {gd:Option (Nat×Bool)} {x y:X} {r g e s b lo hi:Nat} {kk:OK} {q:List V} (hw:bQ σ gd=some true) (hx:x.ev σ=.nilS) (hy:y.ev σ=.osl r g s lo hi) (hk:kk=.row e∨∃p,kk=.rows p e) (k1:σ.ob[r]?=some ⟨kk,true,g,.arr s q⟩) (hp:V.pures ((q.take hi).drop lo)=true) (hb:((q.take hi).drop lo).length*b≤140737488355328∧((q.take hi).drop lo).length≤140737488355328)
  (h:EvR P cx N Q k l ((⟨σ.n,σ.t,σ.ob++[⟨.row e,true,0,.arr s ((q.take hi).drop lo)⟩]⟩:AS).put d (.own σ.ob.length 0))):EvR P cx N Q k (⟨d,gd,.m (.app e s b x y)⟩::l) σ:=by
 have hkk:(∃e,kk=.row e)∨∃p e,kk=.rows p e:=by
  rcases hk with h|⟨p,h⟩
  ·exact .inl ⟨e,h⟩
  ·exact .inr ⟨p,e,h⟩
 refine⟨fun hn E a w R ops os hcc=>?_⟩;obtain⟨o,os',rfl,h1,h2⟩:=kX hcc;obtain⟨c1,c2,c3,c4⟩:=kY h1;unfold wpList;rw [if_pos (uH R c2 hw)];refine .inl ?_;have hL:nR P cx E a w o (.own σ.ob.length 0) ⟨σ.n,σ.t,σ.ob++[⟨.row e,true,0,.arr s ((q.take hi).drop lo)⟩]⟩:=by
  obtain⟨x0,y0,t,i,z,e1,e2,e3,e4,e5,e6,e7,e8,rfl,rfl⟩:=yhx (xg6 c1);have run:∀{v' w'},(Builtin.append_ #[t,t] o.type #[a.eval x0,a.eval y0]).run P w=.ok v' w'→(execOp a.eval o).run P w=.ok (.value v') w':=by
   intro v' w' hr;simp only [execOp,e1,resolve,invoke,builtin,Sem.run_bind,Sem.run_pure,Result.andThen_ok,List.map_toArray,List.map_cons,List.map_nil,hr]
  have hX:=dX R e7;have hY:=dX R e8;rw [hx] at hX;rw [hy] at hY;obtain⟨e0,u,xs,he0,hu,hU,hs0,hql,hown,hrd,hpu,hB⟩:=R.rowAt hkk k1;obtain⟨A,c,ys,g1,g2,g3,g4,g5,g6⟩:=yv8 (y:=.osl r g i.size lo hi) hu hU hown hrd hY ⟨rfl,rfl,rfl⟩;simp only [xdb] at g1 g2 g3 g4 g5 g6;have hxe:a.eval x0=.slice none 0 0:=by simp only [RdT,RdV] at hX;simpa using hX
  obtain⟨v',w',k1,k2,k3,k4⟩:=xnz (P:=P) (ty:=o.type) (c:=c) e2 e3 e4 e5 e6 (World.ownsRow_nil w cx.W.heap.size e i.size) rfl g3 g4 g5 (by simpa using hb.1) (by simpa using hb.2) R.keep.size;rw [←g1,←hxe] at k1;have hsl:∃A n c,v'=.slice A n c:=by
   rcases k2.2 with ⟨rfl,_⟩|⟨g,cap,cur,rfl,_⟩
   ·exact⟨_,_,_,rfl⟩
   ·exact⟨_,_,_,rfl⟩
  have hbk:∀b,aP v'=some b→b=w.heap.size:=by
   intro b hb;obtain⟨A',n',c',rfl⟩:=hsl;rcases k4 with k4|k4
   ·cases A' with
    |none=>simp [aP] at hb
    |some aa=>simp [Value.ownBlock] at k4
   ·cases A' with
    |none=>simp [aP] at hb
    |some aa=>simp [Value.ownBlock] at k4;simp [aP] at hb;omega
  have hBl:Below w.heap.size w w':=k3.below (fun b _ e=>by simp [Value.ownBlock] at e) (Nat.le_refl _);have L0:Leads E w E w':=Leads.heap fun b hb=>hBl.block b (R.lt b hb);simp only [Nat.zero_add,List.nil_append] at k2;obtain⟨L',R'⟩:=R.new (w':=w') (o:=⟨.row e,true,0,.arr i.size ((q.take hi).drop lo)⟩) (u:=v') hBl (fun b hb=>by have:=hbk b hb;omega) rfl rfl (by
   unfold OkO;refine⟨i.size,_,ys,rfl,hp,g3,hs0,hb.2,k2,RdL.cutp hp (g4.mono L0),fun b hb=>?_⟩;simp only [if_true];intro hB;have:=R.lt b hB;have:=hbk b hb;omega)
  refine⟨v',w',_,.inl (run k1),L',?_,R'⟩;obtain⟨A',n',c',rfl⟩:=hsl;simp only [RdT,RdV];refine⟨_,rfl,rfl,by simp [R.len],fun gc u h=>?_⟩;rw [←R.len,List.getElem?_append_right (Nat.le_refl _)] at h;simp at h;obtain⟨h1,h2⟩:=h;subst h1;exact⟨Nat.le_refl _,fun _=>h2⟩
 have key:=xjp hL (S:=fun u w'=>wpList P ops (lT P cx N Q k) os' (a.put o.dst u) w') (fun u w' E' L hu R'=>by
  rw [show o.dst=d from c3];exact h.h (by rw [AS.put_n];exact hn) E' _ w' (R'.put (d:=d) (fun i hi=>by show i<σ.n;rw [show σ.n=N from hn];exact c4 i hi) hu) ops os' h2)
 unfold pO xfh at key;unfold Oper.wp;split at key
 ·rename_i e;rw [e,Oper.upon_value];exact key
 ·rename_i e;rw [e,Oper.upon_skip];exact key
 ·rename_i e
  rw [e,Oper.upon_enter];refine key.mono ?_
  rintro e w' ⟨u,rfl,hu⟩
  exact hu
 ·exact key.elim
end
attribute [go_sem] qJ wsP qC lN lgs List.foldr_cons List.foldr_nil
end Rdn.Dp
