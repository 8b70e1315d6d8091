import Derived.Test.YthmjocibdepahaaGreatA4
import Derived.Test.YthmjocibdepahaaGreatA1
import Derived.Test.YthmjocibdepahaaGreatProg
import Derived.KernelRfl
set_option linter.unusedVariables false
namespace Rdn.Dp
open Go Go.RowKit Rdn
structure En where
 j:Nat
 d:Option Nat
 x:V
 s:Bool
 fp:List Nat
 wr:Option (Nat×Ob)
def jZ (b:List Nat):List En→List (Nat×V)→List (Nat×V)
 |[],t=>t
 |⟨_,none,_,_,_,_⟩::l,t=>jZ b l t
 |⟨j,some d,x,s,_,_⟩::l,t=>(d,if(s||b.contains j)=true then x else .junk)::jZ b l t
def bG:List En→List (Nat×V)→List (Nat×V)
 |[],t=>t
 |⟨_,none,_,_,_,_⟩::l,t=>bG l t
 |⟨_,some d,x,_,_,_⟩::l,t=>(d,x)::bG l t
def bM:List En→List Ob→List Ob
 |[],ob=>ob
 |e::l,ob=>match e.wr with
  |some (r,o)=>(bM l ob).set r o
  |none=>bM l ob
def dF (g:Nat→Option Value):List En→List Ob→List Ob
 |[],ob=>ob
 |e::l,ob=>match e.wr with
  |some (r,o)=>if(g e.j).isSome=true then(dF g l ob).set r o else dF g l ob
  |none=>dF g l ob
theorem xh4:∀(l:List En) (ob:List Ob),(bM l ob).length=ob.length
 |[],ob=>rfl
 |e::l,ob=>by unfold bM;split<;>simp [xh4 l ob]
theorem xf8 (g:Nat→Option Value):∀(l:List En) (ob:List Ob),(dF g l ob).length=ob.length
 |[],ob=>rfl
 |e::l,ob=>by
  unfold dF;split
  ·split<;>simp [xf8 g l ob]
  ·exact xf8 g l ob
theorem xrf {g:Nat→Option Value} (h:∀j,g j=none):∀(l:List En) (ob:List Ob),dF g l ob=ob
 |[],ob=>rfl
 |e::l,ob=>by
  unfold dF;split
  ·rw [h];exact xrf h l ob
  ·exact xrf h l ob
theorem xf0 {l m:List Ob} {r q:Nat} {o:Ob} (hl:l.length=m.length) (h:l[q]?=m[q]?):(l.set r o)[q]?=(m.set r o)[q]?:=by
 by_cases e:r=q
 ·subst e
  simp only [List.getElem?_set,hl,if_true]
 ·rw [List.getElem?_set_ne e,List.getElem?_set_ne e,h]
theorem xmg {g:Nat→Option Value} {q:Nat}:∀{l:List En} {ob:List Ob},(∀e∈l,∀o,e.wr=some (q,o)→(g e.j).isSome=true)→(dF g l ob)[q]?=(bM l ob)[q]?
 |[],ob,h=>rfl
 |e::l,ob,h=>by
  have ih:=xmg (g:=g) (q:=q) (l:=l) (ob:=ob) (fun e' he=>h e' (by simp [he]));unfold dF bM;cases hw:e.wr with
  |none=>exact ih
  |some p=>
   obtain⟨r,o⟩:=p;by_cases er:r=q
   ·subst er
    simp only [h e ξ o hw,if_true];exact xf0 (by rw [xf8,xh4]) ih
   ·simp only
    rw [List.getElem?_set_ne er];split
    ·rw [List.getElem?_set_ne er];exact ih
    ·exact ih
theorem xre {g:Nat→Option Value} {q:Nat}:∀{m l:List En} {ob:List Ob},(∀e∈m,∀o,e.wr=some (q,o)→g e.j=none)→(dF g (m++l) ob)[q]?=(dF g l ob)[q]?
 |[],l,ob,h=>rfl
 |e::m,l,ob,h=>by
  have ih:=xre (g:=g) (q:=q) (m:=m) (l:=l) (ob:=ob) (fun e' he=>h e' (by simp [he]));rw [List.cons_append];have hd:dF g (e::(m++l)) ob=match e.wr with
   |some (r,o)=>if(g e.j).isSome=true then(dF g (m++l) ob).set r o else dF g (m++l) ob
   |none=>dF g (m++l) ob:=rfl
  rw [hd];cases hw:e.wr with
  |none=>exact ih
  |some p=>
   obtain⟨r,o⟩:=p;by_cases er:r=q
   ·subst er
    simp only [h e ξ o hw,Option.isSome_none,Bool.false_eq_true,if_false];exact ih
   ·simp only
    split
    ·rw [List.getElem?_set_ne er,ih]
    ·rw [ih]
theorem xnr {g:Nat→Option Value} {i:Nat} {u:Value}:∀{l:List En} {ob:List Ob},(∀e∈l,e.j=i→e.wr=none)→dF (Gho.upo g i u) l ob=dF g l ob
 |[],ob,h=>rfl
 |e::l,ob,h=>by
  have ih:=xnr (g:=g) (i:=i) (u:=u) (l:=l) (ob:=ob) (fun e' he=>h e' (by simp [he]));unfold dF;cases hw:e.wr with
  |none=>exact ih
  |some p=>
   obtain⟨r,o⟩:=p;have hne:e.j≠i:=fun e1=>by rw [h e ξ e1] at hw;cases hw
   simp only [Gho.upo_ne g u hne,ih]
theorem yey {g:Nat→Option Value} {i:Nat} {u:Value} {r:Nat} {o:Ob} {ei:En} (hi:ei.j=i) (hw:ei.wr=some (r,o)) (hn:g i=none) {pre:List En} (hp:∀e∈pre,e.j≠i) {ob:List Ob}:∀{more:List En},(∀e∈more,e.j≠i)→(∀e∈more,∀o',e.wr=some (r,o')→g e.j=none)→
  dF (Gho.upo g i u) (more++(ei::pre)) ob=(dF g (more++(ei::pre)) ob).set r o
 |[],_,_=>by
  have h1:=xnr (g:=g) (i:=i) (u:=u) (l:=pre) (ob:=ob) (fun e he e1=>absurd e1 (hp e he));simp only [List.nil_append];unfold dF;simp only [hw,hi,Gho.upo_same,hn,Option.isSome_some,Option.isSome_none,if_true,Bool.false_eq_true,if_false];rw [h1]
 |e::more,h1,h2=>by
  have ih:=yey (g:=g) (i:=i) (u:=u) hi hw hn hp (ob:=ob) (more:=more) (fun e he=>h1 e (by simp [he])) (fun e he=>h2 e (by simp [he]));rw [List.cons_append];unfold dF;cases hwe:e.wr with
  |none=>exact ih
  |some p=>
   obtain⟨r',o'⟩:=p;simp only [Gho.upo_ne g u (h1 e ξ)];by_cases hx:(g e.j).isSome=true
   ·have hr:r'≠r:=fun er=>by rw [h2 e ξ o' (by rw [hwe,er])] at hx;cases hx
    simp only [hx,if_true,ih];rw [List.set_comm _ _ (Ne.symm hr)]
   ·simp only [hx,if_false,ih,Bool.false_eq_true]
def X.slots:X→List Nat
 | .t s=>[s]
 | .c _=>[]
def uS (b:List Nat) (s:Nat):List (Nat×Option Nat)→Bool
 |[]=>true
 |(j,d)::ds=>if d=some s then b.contains j else uS b s ds
def tV (b:List Nat) (ds:List (Nat×Option Nat)) (xs:List X):Bool:=xs.all fun x=>x.slots.all fun s=>uS b s ds
def xsK:RK→List X
 | .p m=>xsP m
 | .m m=>jV m
 | .call _ xs=>xs
 | .callv x xs=>x::xs
def yF (B:List (List Nat)):List RO→Nat→List (Nat×Option Nat)→Bool
 |[],_,_=>true
 |r::l,i,ds=>(bk B i).all (fun j=>decide (j<i)) && (tV (bk B i) ds (xsK r.k) && yF B l (i+1) ((i,r.d)::ds))
def rD (pre:List En):List (Nat×Option Nat):=pre.map fun e=>(e.j,e.d)
theorem xrj {b:List Nat} {s:Nat} {t0:List (Nat×V)}:∀{pre:List En},uS b s (rD pre)=true→aV (jZ b pre t0) s=aV (bG pre t0) s
 |[],h=>rfl
 |⟨j,none,x,sk,fp,wr⟩::l,h=>by
  simp only [jZ,bG];refine xrj ?_;simpa [rD,uS] using h
 |⟨j,some d,x,sk,fp,wr⟩::l,h=>by
  simp only [jZ,bG,aV];simp only [rD,List.map_cons,uS,Option.some.injEq] at h;by_cases e:d=s
  ·rw [if_pos e] at h⊢
   rw [if_pos e];have h:j∈b:=by simpa using h
   simp [h]
  ·rw [if_neg e] at h⊢
   rw [if_neg e];exact xrj h
theorem yG {b:List Nat} {pre:List En} {xs:List X} (h:tV b (rD pre) xs=true) {N:Nat} {t0:List (Nat×V)} {ob ob':List Ob}:∀x∈xs,X.ev ⟨N,bG pre t0,ob⟩ x=X.ev ⟨N,jZ b pre t0,ob'⟩ x:=by
 intro x hx;cases x with
 |c v=>rfl
 |t s=>
  have:=List.all_eq_true.1 h _ hx;simp only [X.slots,List.all_cons,List.all_nil,Bool.and_true] at this;exact(xrj this).symm
def xfz (B:List (List Nat)) (preF:List En):Prop:=∀e∈preF,∀e'∈preF,e'.j<e.j→e.s=false→e'.s=false→(bk B e.j).contains e'.j=true∨((∀r o,e'.wr=some (r,o)→r∉e.fp)∧(∀r o,e.wr=some (r,o)→r∉e'.fp))
def xho (ob:List Ob):Option (Nat×Ob)→List Ob
 |some (r,o)=>ob.set r o
 |none=>ob
structure Gen (P:Program) (σ:AS) (k:RK) (x:V) (fp:List Nat) (wr:Option (Nat×Ob)):Prop where
 wf:∀r o,wr=some (r,o)→r∈fp
 h:∀σ':AS,(∀y∈xsK k,y.ev σ'=y.ev σ)→(∀q∈fp,σ'.ob[q]?=σ.ob[q]?)→σ'.ob.length=σ.ob.length→∀{cx:Cx} {E:Env} {a:Act} {w:World} {o:Oper},Rel cx E σ' a w→rU P o.op=some k→
  ∀S:Value→World→Prop,(∀u w' E',Leads E w E' w'→RdT E' w' x u→Rel cx E' {σ' with ob:=xho σ'.ob wr} a w'→S u w')→pO P o a w S
def lN (ws:List (Nat×Ob)) (ob:List Ob):List Ob:=ws.foldr (fun p ob=>ob.set p.1 p.2) ob
def pF (i:Nat) (x:V) (fp:List Nat) (ws:List (Nat×Ob)):List En:=ws.map fun p=>⟨i,none,x,false,fp,some p⟩
structure GenL (P:Program) (σ:AS) (k:RK) (x:V) (fp:List Nat) (ws:List (Nat×Ob)):Prop where
 wf:∀p∈ws,p.1∈fp
 h:∀σ':AS,(∀y∈xsK k,y.ev σ'=y.ev σ)→(∀q∈fp,σ'.ob[q]?=σ.ob[q]?)→σ'.ob.length=σ.ob.length→∀{cx:Cx} {E:Env} {a:Act} {w:World} {o:Oper},Rel cx E σ' a w→rU P o.op=some k→
  ∀S:Value→World→Prop,(∀u w' E',Leads E w E' w'→RdT E' w' x u→Rel cx E' {σ' with ob:=lN ws σ'.ob} a w'→S u w')→pO P o a w S
theorem xsn {ws:List (Nat×Ob)} {r:Nat} {o:Ob} (h:∀p∈ws,p.1≠r):∀(ob:List Ob),lN ws (ob.set r o)=(lN ws ob).set r o:=by
 induction ws with
 |nil=>intro ob;rfl
 |cons p ws ih=>
  intro ob;have ih:=ih (fun q hq=>h q (by simp [hq])) ob;unfold lN at ih⊢;simp only [List.foldr_cons,ih];rw [List.set_comm _ _ (Ne.symm (h p ξ))]
theorem yb4 {i:Nat} {x:V} {fp:List Nat}:∀{ws:List (Nat×Ob)} {pre:List En} {ob:List Ob},bM (pF i x fp ws++pre) ob=lN ws (bM pre ob)
 |[],_,_=>rfl
 |p::ws,pre,ob=>by
  have ih:=yb4 (i:=i) (x:=x) (fp:=fp) (ws:=ws) (pre:=pre) (ob:=ob);unfold pF lN at ih⊢;simp only [List.map_cons,List.cons_append,bM,List.foldr_cons,ih]
theorem yeh {i:Nat} {x:V} {fp:List Nat} {t:List (Nat×V)}:∀{ws:List (Nat×Ob)} {pre:List En},bG (pF i x fp ws++pre) t=bG pre t
 |[],_=>rfl
 |p::ws,pre=>by
  have ih:=yeh (i:=i) (x:=x) (fp:=fp) (t:=t) (ws:=ws) (pre:=pre);unfold pF at ih⊢;simp only [List.map_cons,List.cons_append,bG,ih]
theorem xwm {F:List (Nat×Value)} {i:Nat} {x:V} {fp:List Nat} {v v0:Value} {s:Nat} {fr:List En→Value→Value→Nat→Prop} (hfr:∀(e:Nat) (y:V) (b:Bool) (q:List Nat) (r:Option (Nat×Ob)) (l:List En),fr (⟨e,none,y,b,q,r⟩::l) v v0 s=fr l v v0 s):∀{ws:List (Nat×Ob)} {pre:List En},fr (pF i x fp ws++pre) v v0 s=fr pre v v0 s
 |[],_=>rfl
 |p::ws,pre=>by
  have ih:=xwm (F:=F) (i:=i) (x:=x) (fp:=fp) hfr (ws:=ws) (pre:=pre);unfold pF at ih⊢;rw [List.map_cons,List.cons_append,hfr,ih]
theorem yb5 {g:Nat→Option Value} {i:Nat} {x:V} {fp:List Nat} (hn:g i=none):∀{ws:List (Nat×Ob)} {pre:List En} {ob:List Ob},dF g (pF i x fp ws++pre) ob=dF g pre ob
 |[],_,_=>rfl
 |p::ws,pre,ob=>by
  have ih:=yb5 (g:=g) (i:=i) (x:=x) (fp:=fp) hn (ws:=ws) (pre:=pre) (ob:=ob);unfold pF at ih⊢;simp only [List.map_cons,List.cons_append,dF,hn,Option.isSome_none,Bool.false_eq_true,if_false];exact ih
theorem yb6 {g:Nat→Option Value} {i:Nat} {u:Value} {x:V} {fp:List Nat} {pre:List En} (hp:∀e∈pre,e.j=i→e.wr=none) {ob:List Ob}:∀{ws:List (Nat×Ob)},dF (Gho.upo g i u) (pF i x fp ws++pre) ob=lN ws (dF g pre ob)
 |[]=>xnr hp
 |p::ws=>by
  have ih:=yb6 (g:=g) (i:=i) (u:=u) (x:=x) (fp:=fp) hp (ob:=ob) (ws:=ws);unfold pF lN at ih⊢;simp only [List.map_cons,List.cons_append,dF,Gho.upo_same,Option.isSome_some,if_true,List.foldr_cons,ih]
theorem yez {g:Nat→Option Value} {i:Nat} {u:Value} {x:V} {fp:List Nat} {ws:List (Nat×Ob)} (hn:g i=none) {pre:List En} (hp:∀e∈pre,e.j=i→e.wr=none) {ob:List Ob}:∀{more:List En},(∀e∈more,e.j≠i)→(∀e∈more,∀r o',e.wr=some (r,o')→(∃p∈ws,p.1=r)→g e.j=none)→
  dF (Gho.upo g i u) (more++(pF i x fp ws++pre)) ob=lN ws (dF g (more++(pF i x fp ws++pre)) ob)
 |[],_,_=>by
  rw [List.nil_append,yb6 hp,yb5 hn]
 |e::more,h1,h2=>by
  have ih:=yez (g:=g) (i:=i) (u:=u) (x:=x) (fp:=fp) (ws:=ws) hn hp (ob:=ob) (more:=more) (fun e he=>h1 e (by simp [he])) (fun e he=>h2 e (by simp [he]));rw [List.cons_append];unfold dF;cases hwe:e.wr with
  |none=>exact ih
  |some p=>
   obtain⟨r',o'⟩:=p;simp only [Gho.upo_ne g u (h1 e ξ)];by_cases hx:(g e.j).isSome=true
   ·have hr:∀p∈ws,p.1≠r':=fun p hp' er=>by rw [h2 e ξ r' o' hwe ⟨p,hp',er⟩] at hx;cases hx
    simp only [hx,if_true,ih];rw [xsn hr]
   ·simp only [hx,if_false,ih,Bool.false_eq_true]
section
variable (P:Program) (N:Nat) (t0:List (Nat×V)) (ob0:List Ob) (B:List (List Nat)) (preF:List En)
def xdh (σ σ':AS) (m:MOp):Option (Nat×Ob):=match xW σ m with
 |some r=>(σ'.ob[r]?).map fun o=>(r,o)
 |none=>none
inductive Ok:List RO→Nat→List En→Prop where
 |nil {i:Nat} {pre:List En} (h1:pre=preF):Ok [] i pre
 |skip {r:RO} {l:List RO} {i:Nat} {pre:List En} (hw:bQ ⟨N,bG pre t0,[]⟩ r.gd=some false) (h:Ok l (i+1) (⟨i,r.d,.tup [],true,[],none⟩::pre)):Ok (r::l) i pre
 |p {d:Option Nat} {gd:Option (Nat×Bool)} {m:POp} {l:List RO} {i:Nat} {pre:List En} (hw:bQ ⟨N,bG pre t0,[]⟩ gd=some true) (hd:tV (bk B i) (rD pre) (xsP m)=true) (hc:(iF ⟨N,bG pre t0,bM pre ob0⟩ m).2)
   (h:Ok l (i+1) (⟨i,d,(iF ⟨N,bG pre t0,bM pre ob0⟩ m).1,false,fpP ⟨N,bG pre t0,bM pre ob0⟩ m,none⟩::pre)):Ok (⟨d,gd,.p m⟩::l) i pre
 |f {d:Option Nat} {gd:Option (Nat×Bool)} {m:MOp} {l:List RO} {i:Nat} {pre:List En} (hw:bQ ⟨N,bG pre t0,[]⟩ gd=some true) (hd:tV (bk B i) (rD pre) (jV m)=true) (hc:(qY ⟨N,bG pre t0,bM pre ob0⟩ m).2)
   (h:Ok l (i+1) (⟨i,d,(qY ⟨N,bG pre t0,bM pre ob0⟩ m).1,false,lL ⟨N,bG pre t0,bM pre ob0⟩ m,none⟩::pre)):Ok (⟨d,gd,.m m⟩::l) i pre
 |w {d:Option Nat} {gd:Option (Nat×Bool)} {m:MOp} {l:List RO} {i:Nat} {pre:List En} (hw:bQ ⟨N,bG pre t0,[]⟩ gd=some true) (hd:tV (bk B i) (rD pre) (jV m)=true) (hW:isW ⟨N,bG pre t0,bM pre ob0⟩ m=true) (hc:(dV ⟨N,bG pre t0,bM pre ob0⟩ m).2.2)
   (h:Ok l (i+1) (⟨i,d,(dV ⟨N,bG pre t0,bM pre ob0⟩ m).1,false,lL ⟨N,bG pre t0,bM pre ob0⟩ m,xdh ⟨N,bG pre t0,bM pre ob0⟩ (dV ⟨N,bG pre t0,bM pre ob0⟩ m).2.1 m⟩::pre)):Ok (⟨d,gd,.m m⟩::l) i pre
 |c {d:Option Nat} {gd:Option (Nat×Bool)} {m:MOp} {l:List RO} {i:Nat} {pre:List En} (nx:Nat) (hw:bQ ⟨N,bG pre t0,[]⟩ gd=some true) (hd:tV (bk B i) (rD pre) (jV m)=true) (hn:(bM pre ob0)[nx]?=some kP) (hc:(oW ⟨N,bG pre t0,bM pre ob0⟩ nx m).2.2)
   (h:Ok l (i+1) (⟨i,d,(oW ⟨N,bG pre t0,bM pre ob0⟩ nx m).1,false,nx::lL ⟨N,bG pre t0,bM pre ob0⟩ m,some (nx,(oW ⟨N,bG pre t0,bM pre ob0⟩ nx m).2.1)⟩::pre)):Ok (⟨d,gd,.m m⟩::l) i pre
 |call {d:Option Nat} {gd:Option (Nat×Bool)} {f:FuncId} {xs:List X} {l:List RO} {i:Nat} {pre:List En} (ys:List V) (x:V) (hF:Fnc P f ys fun y obs=>y=x∧obs=[]) (hw:bQ ⟨N,bG pre t0,[]⟩ gd=some true) (hd:tV (bk B i) (rD pre) xs=true)
   (hok:V.ressOk ⟨N,bG pre t0,bM pre ob0⟩ (xs.map (X.ev ⟨N,bG pre t0,bM pre ob0⟩))) (ht:pK (xs.map (X.ev ⟨N,bG pre t0,bM pre ob0⟩))) (hs:Subs (V.lows (V.ress ⟨N,bG pre t0,bM pre ob0⟩ [] (xs.map (X.ev ⟨N,bG pre t0,bM pre ob0⟩)))) ys) (hx:V.pureT x=true) (hq:yS (xs.map (X.ev ⟨N,bG pre t0,bM pre ob0⟩)) x [])
   (h:Ok l (i+1) (⟨i,d,x,false,V.idss (xs.map (X.ev ⟨N,bG pre t0,bM pre ob0⟩)),none⟩::pre)):Ok (⟨d,gd,.call f xs⟩::l) i pre
 |callV {d:Option Nat} {gd:Option (Nat×Bool)} {f:FuncId} {x0:X} {xs:List X} {cs:List V} {l:List RO} {i:Nat} {pre:List En} (ys:List V) (x:V) (hF:Fnc P f ys fun y obs=>y=x∧obs=[]) (hf:okF P f=true) (hv:xdo (X.ev ⟨N,bG pre t0,bM pre ob0⟩ x0)=some (f,cs)) (hw:bQ ⟨N,bG pre t0,[]⟩ gd=some true) (hd:tV (bk B i) (rD pre) (x0::xs)=true)
   (hok:V.ressOk ⟨N,bG pre t0,bM pre ob0⟩ (xs.map (X.ev ⟨N,bG pre t0,bM pre ob0⟩)++cs)) (ht:pK (xs.map (X.ev ⟨N,bG pre t0,bM pre ob0⟩)++cs)) (hs:Subs (V.lows (V.ress ⟨N,bG pre t0,bM pre ob0⟩ [] (xs.map (X.ev ⟨N,bG pre t0,bM pre ob0⟩)++cs))) ys) (hx:V.pureT x=true) (hq:yS (xs.map (X.ev ⟨N,bG pre t0,bM pre ob0⟩)++cs) x [])
   (h:Ok l (i+1) (⟨i,d,x,false,V.idss (xs.map (X.ev ⟨N,bG pre t0,bM pre ob0⟩)++cs),none⟩::pre)):Ok (⟨d,gd,.callv x0 xs⟩::l) i pre
 |callR {d:Option Nat} {gd:Option (Nat×Bool)} {f:FuncId} {xs:List X} {l:List RO} {i:Nat} {pre:List En} (nx:Nat) (ys:List V) (x0:V) (e s:Nat) (qs:List V) (hu:x0.upOk=true) (hF:Fnc P f ys fun y obs=>y=x0∧obs=[⟨.row e,true,0,.arr s qs⟩]) (hw:bQ ⟨N,bG pre t0,[]⟩ gd=some true) (hd:tV (bk B i) (rD pre) xs=true) (hn:(bM pre ob0)[nx]?=some kP)
   (hok:V.ressOk ⟨N,bG pre t0,bM pre ob0⟩ (xs.map (X.ev ⟨N,bG pre t0,bM pre ob0⟩))) (ht:pK (xs.map (X.ev ⟨N,bG pre t0,bM pre ob0⟩))) (hs:Subs (V.lows (V.ress ⟨N,bG pre t0,bM pre ob0⟩ [] (xs.map (X.ev ⟨N,bG pre t0,bM pre ob0⟩)))) ys) (hp:V.pures qs=true) (hq:yS (xs.map (X.ev ⟨N,bG pre t0,bM pre ob0⟩)) x0 [⟨.row e,true,0,.arr s qs⟩])
   (h:Ok l (i+1) (⟨i,d,x0.up nx,false,nx::V.idss (xs.map (X.ev ⟨N,bG pre t0,bM pre ob0⟩)),some (nx,⟨.row e,true,1,.arr s qs⟩)⟩::pre)):Ok (⟨d,gd,.call f xs⟩::l) i pre
 |xhv {d:Option Nat} {gd:Option (Nat×Bool)} {f:FuncId} {xs:List X} {l:List RO} {i:Nat} {pre:List En} (ids:List Nat) (ys:List V) (x:V) (hF:Fnc P f ys fun y obs=>y=x∧obs=[]) (hw:bQ ⟨N,bG pre t0,[]⟩ gd=some true) (hd:tV (bk B i) (rD pre) xs=true)
   (hA:∀σ':AS,(∀q∈ids,σ'.ob[q]?=(bM pre ob0)[q]?)→∀{cx:Cx} {E:Env} {a:Act} {w:World} {vs:List Value},Rel cx E σ' a w→RdTs E w (xs.map (X.ev ⟨N,bG pre t0,bM pre ob0⟩)) vs→RdTs (lQ w) w ys vs) (hx:V.pureT x=true) (hq:x.fresh=true)
   (h:Ok l (i+1) (⟨i,d,x,false,ids,none⟩::pre)):Ok (⟨d,gd,.call f xs⟩::l) i pre
 |callM {d:Option Nat} {gd:Option (Nat×Bool)} {f:FuncId} {xs:List X} {l:List RO} {i:Nat} {pre:List En} (r g:Nat) (ws ys:List V) (q:Bool) (T:TypeId) (dc d0 d' x:V) (hF:FncM P f T d0 ys fun y obs c=>y=x∧obs=[]∧c=d') (hw:bQ ⟨N,bG pre t0,[]⟩ gd=some true) (hd:tV (bk B i) (rD pre) xs=true)
   (hx:xs.map (X.ev ⟨N,bG pre t0,bM pre ob0⟩)=.ptr r g [] 0::ws) (hob:(bM pre ob0)[r]?=some ⟨.box q T,true,g,dc⟩) (hdp:dc.pure=true) (fV:dc.low=d0) (hwp:V.pures ws=true) (hys:V.lows ws=ys) (hp:V.pureT x=true)
   (h:Ok l (i+1) (⟨i,d,x,false,[r],some (r,⟨.box q T,true,g,d'⟩)⟩::pre)):Ok (⟨d,gd,.call f xs⟩::l) i pre
 |callA {d:Option Nat} {gd:Option (Nat×Bool)} {f:FuncId} {xs:List X} {l:List RO} {i:Nat} {pre:List En} (r g:Nat) (ws ys:List V) (kk:OK) (e s:Nat) (q q':List V) (hF:FncA P f e s q ys (· =q')) (hw:bQ ⟨N,bG pre t0,[]⟩ gd=some true) (hd:tV (bk B i) (rD pre) xs=true)
   (hx:xs.map (X.ev ⟨N,bG pre t0,bM pre ob0⟩)=.own r g::ws) (hob:(bM pre ob0)[r]?=some ⟨kk,true,g,.arr s q⟩) (hk:kk=.row e∨∃p,kk=.rows p e) (hi:q.all V.isInt=true) (hwp:V.pures ws=true) (hys:V.lows ws=ys)
   (h:Ok l (i+1) (⟨i,d,.own r (g+1),false,[r],some (r,⟨kk,true,g+1,.arr s q'⟩)⟩::pre)):Ok (⟨d,gd,.call f xs⟩::l) i pre
 |g {d:Option Nat} {gd:Option (Nat×Bool)} {k:RK} {l:List RO} {i:Nat} {pre:List En} (x:V) (fp:List Nat) (wr:Option (Nat×Ob)) (hw:bQ ⟨N,bG pre t0,[]⟩ gd=some true) (hd:tV (bk B i) (rD pre) (xsK k)=true) (hG:Gen P ⟨N,bG pre t0,bM pre ob0⟩ k x fp wr)
   (h:Ok l (i+1) (⟨i,d,x,false,fp,wr⟩::pre)):Ok (⟨d,gd,k⟩::l) i pre
 |gs {d:Option Nat} {gd:Option (Nat×Bool)} {k:RK} {l:List RO} {i:Nat} {pre:List En} (x:V) (fp:List Nat) (ws:List (Nat×Ob)) (hw:bQ ⟨N,bG pre t0,[]⟩ gd=some true) (hd:tV (bk B i) (rD pre) (xsK k)=true) (hG:GenL P ⟨N,bG pre t0,bM pre ob0⟩ k x fp ws)
   (h:Ok l (i+1) (pF i x fp ws++(⟨i,d,x,false,fp,none⟩::pre))):Ok (⟨d,gd,k⟩::l) i pre
end
section
variable {P:Program} {N:Nat} {t0:List (Nat×V)} {ob0:List Ob} {B:List (List Nat)} {preF:List En}
theorem Ok.ext {l:List RO} {i:Nat} {pre:List En} (h:Ok P N t0 ob0 B preF l i pre):∃more,preF=more++pre∧(∀e∈more,i≤e.j):=by
 have key:∀{i:Nat} {pre:List En} {e:En},e.j=i→(∃more,preF=more++(e::pre)∧(∀e∈more,i+1≤e.j))→∃more,preF=more++pre∧(∀e∈more,i≤e.j):=by
  rintro i pre e he ⟨more,h1,h2⟩
  refine⟨more++[e],by rw [h1];simp,fun x hx=>?_⟩;rcases List.mem_append.1 hx with hx|hx
  ·have:=h2 x hx;omega
  ·simp at hx;subst hx;omega
 induction h with
 |nil h1=>subst h1;exact⟨[],rfl,by simp⟩
 |skip _ _ ih=>exact key rfl ih
 |p _ _ _ _ ih=>exact key rfl ih
 |f _ _ _ _ ih=>exact key rfl ih
 |w _ _ _ _ _ ih=>exact key rfl ih
 |c _ _ _ _ _ _ ih=>exact key rfl ih
 |call _ _ _ _ _ _ _ _ _ _ _ ih=>exact key rfl ih
 |callV _ _ _ _ _ _ _ _ _ _ _ _ _ ih=>exact key rfl ih
 |callR _ _ _ _ _ _ _ _ _ _ _ _ _ _ _ _ _ ih=>exact key rfl ih
 |xhv _ _ _ _ _ _ _ _ _ _ ih=>exact key rfl ih
 |callM _ _ _ _ _ _ _ _ _ _ _ _ _ _ _ _ _ _ _ _ _ ih=>exact key rfl ih
 |callA _ _ _ _ _ _ _ _ _ _ _ _ _ _ _ _ _ _ _ ih=>exact key rfl ih
 |g _ _ _ _ _ _ _ ih=>exact key rfl ih
 |gs x fp ws hw hd hG h ih=>
  rename_i d gd k l i pre;obtain⟨more,h1,h2⟩:=ih;refine⟨more++(pF i x fp ws++[⟨i,d,x,false,fp,none⟩]),by rw [h1];simp,fun e he=>?_⟩;rcases List.mem_append.1 he with he|he
  ·have:=h2 e he;omega
  ·rcases List.mem_append.1 he with he|he
   ·obtain⟨p,_,rfl⟩:=List.mem_map.1 he;exact Nat.le_refl _
   ·simp at he;subst he;exact Nat.le_refl _
def sU (F:List (Nat×Value)):List En→Value→Value→Nat→Prop
 |[],v,v0,_=>v=v0
 |⟨_,none,_,_,_,_⟩::l,v,v0,s=>sU F l v v0 s
 |⟨j,some d,_,sk,_,_⟩::l,v,v0,s=>if d=s then(if sk=true then v=undef else ∃u,(j,u)∈F∧v=u) else sU F l v v0 s
theorem xpl {F F':List (Nat×Value)} (hF:∀x∈F,x∈F'):∀{pre:List En} {v v0:Value} {s:Nat},sU F pre v v0 s→sU F' pre v v0 s
 |[],_,_,_,h=>h
 |⟨_,none,_,_,_,_⟩::l,v,v0,s,h=>xpl hF (pre:=l) h
 |⟨j,some d,_,sk,_,_⟩::l,v,v0,s,h=>by
  simp only [sU] at h⊢;split
  ·rename_i e
   rw [if_pos e] at h;split
   ·rename_i e2;rw [if_pos e2] at h;exact h
   ·rename_i e2
    rw [if_neg e2] at h;obtain⟨u,h1,h2⟩:=h;exact⟨u,hF _ h1,h2⟩
  ·rename_i e
   rw [if_neg e] at h;exact xpl hF h
structure Fr (N:Nat) (a0:Act) (pre:List En) (F:List (Nat×Value)) (a:Act):Prop where
 df:a.defers=[]
 n:a.tmps.size=N
 s:∀s,sU F pre (a.tmps.getD s undef) (a0.tmps.getD s undef) s
theorem yca (a:Act) (d:Option Nat) (v:Value):(a.put d v).defers=a.defers:=by cases d<;>rfl
theorem put_n (a:Act) (d:Option Nat) (v:Value):(a.put d v).tmps.size=a.tmps.size:=by cases d<;>simp [Act.put]
theorem Fr.put {a0 a:Act} {pre:List En} {F:List (Nat×Value)} (h:Fr N a0 pre F a) {i:Nat} {d:Option Nat} {x:V} {u:Value} {fp:List Nat} {wr:Option (Nat×Ob)} (hd:∀s,d=some s→s<N):Fr N a0 (⟨i,d,x,false,fp,wr⟩::pre) ((i,u)::F) (a.put d u):=by
 refine⟨by rw [yca];exact h.df,by rw [put_n];exact h.n,fun s=>?_⟩;have hs:=xpl (F':=(i,u)::F) (fun x hx=>by simp [hx]) (h.s s);cases d with
 |none=>exact hs
 |some d=>
  simp only [sU];rw [xpq a d u s (by rw [h.n];exact hd d rfl)];split
  ·simp
  ·exact hs
theorem Fr.skip {a0 a:Act} {pre:List En} {F:List (Nat×Value)} (h:Fr N a0 pre F a) {i:Nat} {d:Option Nat} (hd:∀s,d=some s→s<N):Fr N a0 (⟨i,d,.tup [],true,[],none⟩::pre) F (a.put d undef):=by
 refine⟨by rw [yca];exact h.df,by rw [put_n];exact h.n,fun s=>?_⟩;have hs:=h.s s;cases d with
 |none=>exact hs
 |some d=>
  simp only [sU];rw [xpq a d undef s (by rw [h.n];exact hd d rfl)];split
  ·simp
  ·exact hs
theorem yeq {E:Env} {w:World}:RdT E w (.tup []) undef:=by simp only [RdT,RdTs];exact⟨[],rfl,rfl⟩
theorem xr1 {E:Env} {w:World} {F:List (Nat×Value)} {b:List Nat}:∀{pre:List En} {v v0:Value} {s:Nat},sU F pre v v0 s→(∀e∈pre,e.s=false→∀u,(e.j,u)∈F→b.contains e.j=true→RdT E w e.x u)→(∀e∈pre,e.s=true→e.x=.tup [])→RdT E w (aV t0 s) v0→RdT E w (aV (jZ b pre t0) s) v
 |[],v,v0,s,h,_,_,h0=>by simp only [sU] at h;subst h;exact h0
 |⟨_,none,_,_,_,_⟩::l,v,v0,s,h,h1,h2,h0=>by
  simp only [sU] at h;simp only [jZ];exact xr1 h (fun e he=>h1 e (by simp [he])) (fun e he=>h2 e (by simp [he])) h0
 |⟨j,some d,x,sk,fp,wr⟩::l,v,v0,s,h,h1,h2,h0=>by
  simp only [sU] at h;simp only [jZ,aV];split
  ·rename_i e
   rw [if_pos e] at h;cases sk with
   |true=>
    simp only [if_true] at h;have hx:x=.tup []:=h2 ⟨j,some d,x,true,fp,wr⟩ ξ rfl;subst h hx;simp only [Bool.true_or,if_true];exact yeq
   |false=>
    simp only [Bool.false_eq_true,if_false] at h;obtain⟨u,hu,rfl⟩:=h;split
    ·rename_i hb
     exact h1 ⟨j,some d,x,false,fp,wr⟩ ξ rfl _ hu (by simpa using hb)
    ·simp only [RdT]
  ·rename_i e
   rw [if_neg e] at h;exact xr1 h (fun e he=>h1 e (by simp [he])) (fun e he=>h2 e (by simp [he])) h0
theorem xhq {Pd:V→Value→Prop} {F:List (Nat×Value)}:∀{pre:List En} {v v0:Value} {s:Nat},sU F pre v v0 s→(∀e∈pre,e.s=false→∀u,(e.j,u)∈F→Pd e.x u)→(∀e∈pre,e.s=true→Pd e.x undef)→Pd (aV t0 s) v0→Pd (aV (bG pre t0) s) v
 |[],v,v0,s,h,_,_,h0=>by simp only [sU] at h;subst h;exact h0
 |⟨_,none,_,_,_,_⟩::l,v,v0,s,h,h1,h2,h0=>by
  simp only [sU] at h;simp only [bG];exact xhq h (fun e he=>h1 e (by simp [he])) (fun e he=>h2 e (by simp [he])) h0
 |⟨j,some d,x,sk,fp,wr⟩::l,v,v0,s,h,h1,h2,h0=>by
  simp only [sU] at h;simp only [bG,aV];split
  ·rename_i e
   rw [if_pos e] at h;cases sk with
   |true=>
    simp only [if_true] at h;subst h;exact h2 ⟨j,some d,x,true,fp,wr⟩ ξ rfl
   |false=>
    simp only [Bool.false_eq_true,if_false] at h;obtain⟨u,hu,rfl⟩:=h;exact h1 ⟨j,some d,x,false,fp,wr⟩ ξ rfl _ hu
  ·rename_i e
   rw [if_neg e] at h;exact xhq h (fun e he=>h1 e (by simp [he])) (fun e he=>h2 e (by simp [he])) h0
structure CofE (cx:Cx) (N:Nat) (t0:List (Nat×V)) (ob0:List Ob) (B:List (List Nat)) (preF:List En) (a0:Act) (g:Nat→Option Value) (w:World) (E:Env):Prop where
 r:Rel cx E ⟨N,t0,dF g preF ob0⟩ a0 w
 x:∀e∈preF,e.s=false→∀u,g e.j=some u→RdT E w e.x u
 c:∀e∈preF,e.s=false→(g e.j).isSome=true→∀e'∈preF,e'.s=false→(bk B e.j).contains e'.j=true→(g e'.j).isSome=true
def Cof (cx:Cx) (N:Nat) (t0:List (Nat×V)) (ob0:List Ob) (B:List (List Nat)) (preF:List En) (a0:Act) (g:Nat→Option Value) (w:World):Prop:=∃E,CofE cx N t0 ob0 B preF a0 g w E
def ShE (x:V) (u:Value):Prop:=(∀b,x=.bool b→u=.bool b)∧(x=.tup []→u=.tuple #[])
theorem ShE.ex (x:V):∃u,ShE x u:=by
 cases x with
 |bool b=>exact⟨.bool b,fun c h=>(by cases h;rfl),fun h=>(by cases h)⟩
 |tup l=>exact⟨.tuple #[],fun c h=>(by cases h),fun _=>rfl⟩
 |_=>exact⟨undef,fun c h=>(by cases h),fun h=>(by cases h)⟩
theorem ShE.of {E:Env} {w:World} {x:V} {u:Value} (h:RdT E w x u):ShE x u:=by
 refine⟨fun b e=>?_,fun e=>?_⟩
 ·rw [e] at h;exact xca h
 ·rw [e] at h
  simp only [RdT,RdTs] at h;obtain⟨vs,h1,rfl⟩:=h;exact h1
def Shf (preF:List En) (i:Nat) (u:Value):Prop:=∀e∈preF,e.j=i→e.s=false→ShE e.x u
structure Std (N:Nat) (preF:List En) (a0:Act) (i:Nat) (pre:List En) (F:List (Nat×Value)) (a:Act):Prop where
 lt:∀e∈pre,e.j<i
 sk:∀e∈pre,e.s=true→e.x=.tup []
 fr:Fr N a0 pre F a
 inF:∀e∈pre,e.s=false→∃u,(e.j,u)∈F
 sh:∀x∈F,Shf preF x.1 x.2
section
variable {cx:Cx} {a0 a:Act} {i:Nat} {pre:List En} {F:List (Nat×Value)} {g:Nat→Option Value} {w:World}
theorem ycm (S:Std N preF a0 i pre F a) {E:Env} (hC:CofE cx N t0 ob0 B preF a0 g w E) (hF:∀x∈F,x.1∈bk B i→g x.1=some x.2) (hsub:∀e∈pre,e∈preF):Rel cx E ⟨N,jZ (bk B i) pre t0,dF g preF ob0⟩ a w:=by
 have R:=hC.r;exact⟨S.fr.df,S.fr.n,fun s=>xr1 (S.fr.s s) (fun e he hs u hu hb=>hC.x e (hsub e he) hs u (hF _ hu (by simpa using hb))) S.sk (R.tm s),R.len,R.ob,R.sep,R.lt,R.fr,R.old,R.keep⟩
theorem xxi {E:Env} (hC:CofE cx N t0 ob0 B preF a0 g w E) (hn:g i=none) (hcf:xfz B preF) {ei:En} (hj:ei.j=i) (hs:ei.s=false) {more:List En} (hpre:preF=more++(ei::pre)) (hmore:∀e∈more,i+1≤e.j)
  (hsk:∀e∈preF,e.s=true→e.wr=none) {q:Nat} (hq:q∈ei.fp):∀e∈more,∀o,e.wr=some (q,o)→g e.j=none:=by
 intro e he o ho;have hei:ei∈preF:=by rw [hpre];simp
 have hin:e∈preF:=by rw [hpre];simp [he]
 have hes:e.s=false:=by
  cases h:e.s with
  |false=>rfl
  |true=>rw [hsk e hin h] at ho;cases ho
 have hlt:=hmore e he;rcases hcf e hin ei hei ω hes hs with h|h
 ·cases hg:g e.j with
  |none=>rfl
  |some u=>
   have:=hC.c e hin hes (by rw [hg];rfl) ei hei hs h;rw [hj,hn] at this;cases this
 ·exact absurd hq (h.2 q o ho)
theorem xrg (S:Std N preF a0 i pre F a) {E:Env} (hC:CofE cx N t0 ob0 B preF a0 g w E) (hn:g i=none) (hF:∀x∈F,x.1∈bk B i→g x.1=some x.2) (hcf:xfz B preF) {ei:En} (hj:ei.j=i) (hs:ei.s=false) {more:List En} (hpre:preF=more++(ei::pre)) (hmore:∀e∈more,i+1≤e.j)
  (hsk:∀e∈preF,e.s=true→e.wr=none):∀q∈ei.fp,(bM pre ob0)[q]?=(dF g preF ob0)[q]?:=by
 intro q hq;have hei:ei∈preF:=by rw [hpre];simp
 have hsub:∀e∈pre,e∈preF:=fun e he=>by rw [hpre];simp [he]
 have hmo:∀e∈more++[ei],∀o,e.wr=some (q,o)→g e.j=none:=by
  intro e he o ho;rcases List.mem_append.1 he with he|he
  ·exact xxi hC hn hcf hj hs hpre hmore hsk hq e he o ho
  ·simp at he;subst he;rw [hj];exact hn
 have h1:(dF g preF ob0)[q]?=(dF g pre ob0)[q]?:=by
  rw [hpre,show more++(ei::pre)=(more++[ei])++pre by simp];exact xre hmo
 rw [h1];refine(xmg (fun e he o ho=>?_)).symm;have hes:e.s=false:=by
  cases h:e.s with
  |false=>rfl
  |true=>rw [hsk e (hsub e he) h] at ho;cases ho
 have hlt:=S.lt e he;rcases hcf ei hei e (hsub e he) ω hs hes with h|h
 ·obtain⟨u,hu⟩:=S.inF e he hes
  rw [hF _ hu (by rw [hj] at h;simpa using h)];rfl
 ·exact absurd hq (h.1 q o ho)
theorem ypg (S:Std N preF a0 i pre F a) {E E':Env} {w':World} {u:Value} {ei:En} {t':List (Nat×V)} {ob':List Ob} (hC:CofE cx N t0 ob0 B preF a0 g w E) (hF:∀x∈F,x.1∈bk B i→g x.1=some x.2) (L:Leads E w E' w') (hx:RdT E' w' ei.x u) (R:Rel cx E' ⟨N,t',ob'⟩ a w') (hj:ei.j=i) (hs:ei.s=false) {more:List En} (hpre:preF=more++(ei::pre)) (hmore:∀e∈more,i+1≤e.j)
  (hob:dF (Gho.upo g i u) preF ob0=ob') (hbl:∀j∈bk B i,j<i):Cof cx N t0 ob0 B preF a0 (Gho.upo g i u) w'∧Shf preF i u:=by
 have uniq:∀e∈preF,e.j=i→e=ei:=by
  intro e he hj';rw [hpre] at he;rcases List.mem_append.1 he with he|he
  ·have:=hmore e he;omega
  ·rcases List.mem_cons.1 he with rfl|he
   ·rfl
   ·have:=S.lt e he;omega
 refine⟨⟨E',⟨hC.r.df,hC.r.n,fun s=>(hC.r.tm s).mono L,?_,?_,?_,R.lt,R.fr,R.old,R.keep⟩,fun e he hs v hv=>?_,fun e he hs hg e' he' hs' hb=>?_⟩,fun e he hj hs=>?_⟩
 ·rw [hob];exact R.len
 ·rw [hob];exact R.ob
 ·rw [hob];exact R.sep
 ·by_cases e1:e.j=i
  ·have:=uniq e he e1
   subst this;rw [e1,Gho.upo_same] at hv;obtain rfl:=Option.some.inj hv;exact hx
  ·rw [Gho.upo_ne g u e1] at hv
   exact(hC.x e he hs v hv).mono L
 ·by_cases e2:e'.j=i
  ·rw [e2,Gho.upo_same];rfl
  ·rw [Gho.upo_ne g u e2]
   by_cases e1:e.j=i
   ·rw [e1] at hb
    have hlt:=hbl e'.j (by simpa using hb);have hin:e'∈pre:=by
     rw [hpre] at he';rcases List.mem_append.1 he' with he'|he'
     ·have:=hmore e' he';omega
     ·rcases List.mem_cons.1 he' with rfl|he'
      ·omega
      ·exact he'
    obtain⟨v,hv⟩:=S.inF e' hin hs';rw [hF _ hv (by simpa using hb)];rfl
   ·rw [Gho.upo_ne g u e1] at hg
    exact hC.c e he hs hg e' he' hs' hb
 ·have:=uniq e he hj
  subst this;exact ShE.of hx
end
theorem xpm {F:List (Nat×Value)} {v v0:Value} {s:Nat}:∀{pre:List En},(∀e∈pre,e.d≠some s)→sU F pre v v0 s→v=v0
 |[],_,h=>h
 |⟨_,none,_,_,_,_⟩::l,hn,h=>xpm (pre:=l) (fun e he=>hn e (by simp [he])) h
 |⟨j,some d,_,sk,_,_⟩::l,hn,h=>by
  simp only [sU] at h;have hne:d≠s:=fun e=>hn _ List.mem_cons_self (by subst e;rfl);rw [if_neg hne] at h;exact xpm (pre:=l) (fun e he=>hn e (by simp [he])) h
theorem yq2 {cx:Cx} {Fin:Act→World→Prop} {ops:Array Oper} {a0:Act} {total:Nat} (hfin:∀E a w,Rel cx E ⟨N,bG preF t0,bM preF ob0⟩ a w→(∀s,(∀e∈preF,e.d≠some s)→a.tmps.getD s undef=a0.tmps.getD s undef)→Fin a w)
  (hb0:∀s c,aV t0 s=.bool c→a0.tmps.getD s undef=.bool c) (ht0:∀s,aV t0 s=.tup []→a0.tmps.getD s undef=.tuple #[]) (hcf:xfz B preF) (hsk:∀e∈preF,e.s=true→e.wr=none) (hbl:∀i,i<total→∀j∈bk B i,j<i) {l:List RO} {i:Nat} {pre:List En} (h:Ok P N t0 ob0 B preF l i pre):
  ∀(os:List Oper) (F:List (Nat×Value)) (a:Act),wE P N ops os=some l→i+l.length=total→Std N preF a0 i pre F a→
   Gho.relWalk P ops (Cof cx N t0 ob0 B preF a0) (List.range total) (Shf preF) B Fin os i F a:=by
 have guard:∀{i:Nat} {pre:List En} {F:List (Nat×Value)} {a:Act} {o:Oper} {gd:Option (Nat×Bool)} {b:Bool},Std N preF a0 i pre F a→(∀e∈pre,e∈preF)→xg5 ops o.guard=some gd→bQ ⟨N,bG pre t0,[]⟩ gd=some b→Region.wanted o (yielded ops a.tmps)=b:=by
  intro i pre F a o gd b S hsub hg hw;refine yff (σ:=⟨N,bG pre t0,[]⟩) (fun s=>?_) (fun s=>?_) hg hw
  ·exact xhq (Pd:=fun x v=>∀c,x=.bool c→v=.bool c) (S.fr.s s) (fun e he hs u hu=>(S.sh _ hu e (hsub e he) rfl hs).1) (fun e he hs c hc=>by rw [S.sk e he hs] at hc;cases hc) (fun c hc=>hb0 s c hc)
  ·exact xhq (Pd:=fun x v=>x=.tup []→v=.tuple #[]) (S.fr.s s) (fun e he hs u hu=>(S.sh _ hu e (hsub e he) rfl hs).2) (fun e he hs hc=>rfl) (fun hc=>ht0 s hc)
 have run:∀{i:Nat} {pre:List En} {F:List (Nat×Value)} {a:Act} {o:Oper} {os:List Oper} {d:Option Nat} {x:V} {fp:List Nat} {wr:Option (Nat×Ob)} {l:List RO},Std N preF a0 i pre F a→i+(l.length+1)=total→(∀s,d=some s→s<N)→o.dst=d→(∀r ob,wr=some (r,ob)→r∈fp)→
   Region.wanted o (yielded ops a.tmps)=true→Ok P N t0 ob0 B preF l (i+1) (⟨i,d,x,false,fp,wr⟩::pre)→
   (∀(F':List (Nat×Value)) (a':Act),Std N preF a0 (i+1) (⟨i,d,x,false,fp,wr⟩::pre) F' a'→Gho.relWalk P ops (Cof cx N t0 ob0 B preF a0) (List.range total) (Shf preF) B Fin os (i+1) F' a')→
   (∀g w E,Rel cx E ⟨N,jZ (bk B i) pre t0,dF g preF ob0⟩ a w→(∀q∈fp,(bM pre ob0)[q]?=(dF g preF ob0)[q]?)→∀S:Value→World→Prop,(∀u w' E' t',Leads E w E' w'→RdT E' w' x u→Rel cx E' ⟨N,t',match wr with|some (r,ob)=>(dF g preF ob0).set r ob|none=>dF g preF ob0⟩ a w'→S u w')→pO P o a w S)→
   Gho.relWalk P ops (Cof cx N t0 ob0 B preF a0) (List.range total) (Shf preF) B Fin (o::os) i F a:=by
  intro i pre F a o os d x fp wr l S htot hd hod hwf hw hok ih hop;obtain⟨more,hpre,hmore⟩:=hok.ext;have hsub:∀e∈pre,e∈preF:=fun e he=>by rw [hpre];simp [he]
  have uniq:∀e∈preF,e.j=i→e=⟨i,d,x,false,fp,wr⟩:=by
   intro e he hj;rw [hpre] at he;rcases List.mem_append.1 he with he|he
   ·have:=hmore e he;omega
   ·rcases List.mem_cons.1 he with rfl|he
    ·rfl
    ·have:=S.lt e he;omega
  have shi:∀u,ShE x u→Shf preF i u:=fun u hu e he hj hs=>by rw [uniq e he hj];exact hu
  unfold Gho.relWalk;rw [if_pos hw,if_pos (by simp;omega)];refine⟨?_,?_,?_⟩
  ·obtain⟨u,hu⟩:=ShE.ex x
   exact⟨u,shi u hu⟩
  ·rintro g w ⟨E,hC⟩ hn hF
   have q1:=ycm S hC hF hsub;have q2:=xrg S hC hn hF hcf (ei:=⟨i,d,x,false,fp,wr⟩) rfl rfl hpre hmore hsk;refine hop g w E q1 q2 _ (fun u w' E' t' L hx R=>?_);refine ypg S hC hF L (ei:=⟨i,d,x,false,fp,wr⟩) hx R rfl rfl hpre hmore ?_ (hbl i ω);cases hwr:wr with
   |none=>exact xnr fun e he hj=>by rw [uniq e he hj,hwr]
   |some p=>
    obtain⟨r,ob⟩:=p;have hla:=xxi hC hn hcf (ei:=⟨i,d,x,false,fp,wr⟩) rfl rfl hpre hmore hsk (hwf r ob hwr);rw [hpre];exact yey (i:=i) (ei:=⟨i,d,x,false,fp,wr⟩) rfl hwr hn (fun e he hj=>by have:=S.lt e he;omega) (fun e he hj=>by have:=hmore e he;omega) hla
  ·intro u hu
   rw [hod];refine ih _ _ ⟨fun e he=>?_,fun e he hs=>?_,S.fr.put hd,fun e he hs=>?_,fun y hy=>?_⟩
   ·rcases List.mem_cons.1 he with rfl|he
    ·exact Nat.lt_succ_self _
    ·have:=S.lt e he;omega
   ·rcases List.mem_cons.1 he with rfl|he
    ·cases hs
    ·exact S.sk e he hs
   ·rcases List.mem_cons.1 he with rfl|he
    ·exact⟨u,by simp⟩
    ·obtain⟨v,hv⟩:=S.inF e he hs
     exact⟨v,by simp [hv]⟩
   ·rcases List.mem_cons.1 hy with rfl|hy
    ·exact hu
    ·exact S.sh y hy
 induction h with
 |nil h1=>
  rename_i i pre;intro os F a hc htot S;cases os with
  |cons o os=>simp only [wE] at hc;split at hc<;>cases hc
  |nil=>
   unfold Gho.relWalk
   rintro g w ⟨E,hC⟩ hF
   subst h1;have hob:dF g pre ob0=bM pre ob0:=List.ext_getElem? fun q=>xmg fun e he o ho=>by
    have hes:e.s=false:=by
     cases h:e.s with
     |false=>rfl
     |true=>rw [hsk e he h] at ho;cases ho
    obtain⟨u,hu⟩:=S.inF e he hes;rw [hF _ hu];rfl
   have R:=hC.r;rw [hob] at R;refine hfin E a w ⟨S.fr.df,S.fr.n,fun s=>?_,R.len,R.ob,R.sep,R.lt,R.fr,R.old,R.keep⟩ (fun s hs=>xpm hs (S.fr.s s));exact xhq (Pd:=fun x v=>RdT E w x v) (S.fr.s s) (fun e he hs u hu=>hC.x e he hs u (hF _ hu)) (fun e he hs=>by rw [S.sk e he hs];exact yeq) (R.tm s)
 |skip hw h ih=>
  rename_i r l i pre;intro os F a hc htot S;obtain⟨o,os',rfl,c1,c2⟩:=kX hc;obtain⟨k1,k2,k3,k4⟩:=kY c1;obtain⟨more,hpre,hmore⟩:=h.ext;have hsub:∀e∈pre,e∈preF:=fun e he=>by rw [hpre];simp [he]
  unfold Gho.relWalk;rw [if_neg (by rw [guard S hsub k2 hw];simp),k3];refine ih os' F _ c2 (by simp at htot;omega) ⟨fun e he=>?_,fun e he hs=>?_,S.fr.skip k4,fun e he hs=>?_,S.sh⟩
  ·rcases List.mem_cons.1 he with rfl|he
   ·exact Nat.lt_succ_self _
   ·have:=S.lt e he;omega
  ·rcases List.mem_cons.1 he with rfl|he
   ·rfl
   ·exact S.sk e he hs
  ·rcases List.mem_cons.1 he with rfl|he
   ·cases hs
   ·exact S.inF e he hs
 |p hw hd hcc h ih=>
  rename_i d gd m l i pre;intro os F a hc htot S;obtain⟨o,os',rfl,c1,c2⟩:=kX hc;obtain⟨k1,k2,k3,k4⟩:=kY c1;obtain⟨more,hpre,hmore⟩:=h.ext;have hsub:∀e∈pre,e∈preF:=fun e he=>by rw [hpre];simp [he]
  refine run S (by simpa using htot) k4 k3 (fun _ _ h=>by cases h) (guard S hsub k2 hw) h (fun F' a' S'=>ih os' F' a' c2 (by simp at htot;omega) S') (fun g w E R hq T hT=>?_);have hloc:=yg1 (σ:=⟨N,bG pre t0,bM pre ob0⟩) (σ':=⟨N,jZ (bk B i) pre t0,dF g preF ob0⟩) (yG hd) hq;refine yst (yhv k1 (fun e=>by subst e;exact hcc)) R (by rw [←hloc];exact hcc) (fun v hv=>?_);rw [←hloc] at hv;exact hT v w E _ (Leads.refl _ _) hv R
 |f hw hd hcc h ih=>
  rename_i d gd m l i pre;intro os F a hc htot S;obtain⟨o,os',rfl,c1,c2⟩:=kX hc;obtain⟨k1,k2,k3,k4⟩:=kY c1;obtain⟨more,hpre,hmore⟩:=h.ext;have hsub:∀e∈pre,e∈preF:=fun e he=>by rw [hpre];simp [he]
  refine run S (by simpa using htot) k4 k3 (fun _ _ h=>by cases h) (guard S hsub k2 hw) h (fun F' a' S'=>ih os' F' a' c2 (by simp at htot;omega) S') (fun g w E R hq T hT=>?_);have hloc:=yg0 (σ:=⟨N,bG pre t0,bM pre ob0⟩) (σ':=⟨N,jZ (bk B i) pre t0,dF g preF ob0⟩) (yG hd) hq (by simp [xh4,xf8]);refine xjp (yqk (xg6 k1) R (by rw [←hloc];exact hcc)) (fun v w' E' L hv R'=>?_);rw [←hloc] at hv;exact hT v w' E' _ L hv R'
 |w hw hd hW hcc h ih=>
  rename_i d gd m l i pre;intro os F a hc htot S;obtain⟨o,os',rfl,c1,c2⟩:=kX hc;obtain⟨k1,k2,k3,k4⟩:=kY c1;obtain⟨more,hpre,hmore⟩:=h.ext;have hsub:∀e∈pre,e∈preF:=fun e he=>by rw [hpre];simp [he]
  have hloc0:=xny (σ:=⟨N,bG pre t0,bM pre ob0⟩) (σ':=⟨N,bG pre t0,bM pre ob0⟩) (fun _ _=>rfl) (fun _ _=>rfl) hW hcc;refine run S (by simpa using htot) k4 k3 (fun r ob hr=>?_) (guard S hsub k2 hw) h (fun F' a' S'=>ih os' F' a' c2 (by simp at htot;omega) S') (fun g w E R hq T hT=>?_)
  ·unfold xdh at hr
   rcases hloc0.2.2 with ⟨e1,_⟩|⟨r',o',e1,e2,_⟩
   ·rw [e1] at hr;cases hr
   ·rw [e1] at hr
    simp only [Option.map_eq_some_iff,Prod.mk.injEq] at hr;obtain⟨_,_,rfl,_⟩:=hr;exact e2
  ·have hloc:=xny (σ:=⟨N,bG pre t0,bM pre ob0⟩) (σ':=⟨N,jZ (bk B i) pre t0,dF g preF ob0⟩) (yG hd) hq hW hcc
   refine xjp (xa7 (xg6 k1) R hloc.2.1) (fun v w' E' L hv R'=>?_);rw [hloc.1] at hv;have R2:Rel cx E' ⟨N,[],(dV ⟨N,jZ (bk B i) pre t0,dF g preF ob0⟩ m).2.1.ob⟩ a w':=⟨R'.df,S.fr.n,fun s=>by simp only [aV,RdT],R'.len,R'.ob,R'.sep,R'.lt,R'.fr,R'.old,R'.keep⟩;refine hT v w' E' [] L hv ?_;rcases hloc.2.2 with ⟨e1,e2,e3⟩|⟨r',o',e1,e2,e3,e4,e5⟩
   ·rw [e3] at R2
    simpa only [xdh,e1] using R2
   ·rw [e5] at R2
    simp only at e3 e4;have:(dV ⟨N,bG pre t0,bM pre ob0⟩ m).2.1.ob[r']?=some o':=by rw [e4,List.getElem?_set_self e3]
    simpa only [xdh,e1,this,Option.map_some] using R2
 |c nx hw hd hn hcc h ih=>
  rename_i d gd m l i pre;intro os F a hc htot S;obtain⟨o,os',rfl,c1,c2⟩:=kX hc;obtain⟨k1,k2,k3,k4⟩:=kY c1;obtain⟨more,hpre,hmore⟩:=h.ext;have hsub:∀e∈pre,e∈preF:=fun e he=>by rw [hpre];simp [he]
  refine run S (by simpa using htot) k4 k3 (fun r ob hr=>by injection hr with hr;injection hr with hr;subst hr;simp) (guard S hsub k2 hw) h (fun F' a' S'=>ih os' F' a' c2 (by simp at htot;omega) S') (fun g w E R hq T hT=>?_);have hloc:=yfz (nx:=nx) (σ:=⟨N,bG pre t0,bM pre ob0⟩) (σ':=⟨N,jZ (bk B i) pre t0,dF g preF ob0⟩) (yG hd) (fun q h=>hq q (by simp [h])) (by simp [xh4,xf8]);refine xjp (yqj (nx:=nx) (xg6 k1) R (by rw [←hn];exact(hq nx ξ).symm) (by rw [←hloc];exact hcc)) (fun v w' E' L hv R'=>?_);rw [←hloc] at hv R';exact hT v w' E' _ L hv R'
 |call ys x hFn hw hd hokk htt hss hxp hnq h ih=>
  rename_i d gd f xs l i pre;intro os F a hc htot S;obtain⟨o,os',rfl,c1,c2⟩:=kX hc;obtain⟨k1,k2,k3,k4⟩:=kY c1;obtain⟨more,hpre,hmore⟩:=h.ext;have hsub:∀e∈pre,e∈preF:=fun e he=>by rw [hpre];simp [he]
  refine run S (by simpa using htot) k4 k3 (fun _ _ h=>by cases h) (guard S hsub k2 hw) h (fun F' a' S'=>ih os' F' a' c2 (by simp at htot;omega) S') (fun g w E R hq T hT=>?_);obtain⟨aas,hxs,hrun⟩:=wC k1 a;unfold pO;rw [hrun w];have hevs:xs.map (X.ev ⟨N,bG pre t0,bM pre ob0⟩)=xs.map (X.ev ⟨N,jZ (bk B i) pre t0,dF g preF ob0⟩):=List.map_congr_left (yG hd);rw [hevs] at hokk htt hss hq hnq;have hres:=xee (σ:=⟨N,bG pre t0,bM pre ob0⟩) (σ':=⟨N,jZ (bk B i) pre t0,dF g preF ob0⟩) [] hq;rw [hres.1] at hss;rw [hres.2] at hokk;obtain⟨SS,hSS,hargs,hSp⟩:=xk8 R hxs hokk htt hss;refine(hFn w SS _ hSS hargs).mono ?_
  rintro e w' ⟨y,obs,v,⟨rfl,rfl⟩,rfl,hres⟩
  obtain⟨E',L,hv,R'⟩:=R.backC hSp hnq hres;rw [V.shift_pureT _ _ hxp] at hv;refine⟨v,rfl,hT v w' E' (jZ (bk B i) pre t0) L hv ?_⟩;simpa only [List.map_nil,List.append_nil] using R'
 |callV ys x hFn hf hv hw hd hokk htt hss hxp hnq h ih=>
  rename_i d gd f x0 xs cs l i pre;intro os F a hc htot S;obtain⟨o,os',rfl,c1,c2⟩:=kX hc;obtain⟨k1,k2,k3,k4⟩:=kY c1;obtain⟨more,hpre,hmore⟩:=h.ext;have hsub:∀e∈pre,e∈preF:=fun e he=>by rw [hpre];simp [he]
  refine run S (by simpa using htot) k4 k3 (fun _ _ h=>by cases h) (guard S hsub k2 hw) h (fun F' a' S'=>ih os' F' a' c2 (by simp at htot;omega) S') (fun g w E R hq T hT=>?_);obtain⟨i',aas,ats,e1,rfl,hxs⟩:=xuw (o:=o) k1;have hevs:xs.map (X.ev ⟨N,bG pre t0,bM pre ob0⟩)=xs.map (X.ev ⟨N,jZ (bk B i) pre t0,dF g preF ob0⟩):=List.map_congr_left fun y hy=>yG hd y (List.mem_cons_of_mem _ hy);rw [yG (ob':=dF g preF ob0) hd _ List.mem_cons_self] at hv;rw [hevs] at hokk htt hss hq hnq;have hres:=xee (σ:=⟨N,bG pre t0,bM pre ob0⟩) (σ':=⟨N,jZ (bk B i) pre t0,dF g preF ob0⟩) [] hq;rw [hres.1] at hss;rw [hres.2] at hokk;obtain⟨us,hu,hus⟩:=xub hv (R.tm i');unfold okF at hf;split at hf
  ·rename_i fn hfn
   simp only [Bool.and_eq_true] at hf;have hr:(execOp a.eval o).run P w=.ok (.enter f (aas.map a.eval++us.toArray)) w:=by
    simp only [execOp,e1,resolve,Act.eval,hu,Deferred.ofValue,Sem.run_bind,Sem.run_pure,Result.andThen_ok,invoke];rw [xn7 hfn hf.1 hf.2];simp
   unfold pO;rw [hr];obtain⟨SS,hSS,hargs,hSp⟩:=xua R ((yD R hxs).app hus) hokk htt hss;have hC:=hFn w SS _ hSS hargs;have e2:(aas.toList.map a.eval++us).toArray=aas.map a.eval++us.toArray:=by
    rw [←Array.toList_map];simp
   rw [e2] at hC;refine hC.mono ?_
   rintro e w' ⟨y,obs,v,⟨rfl,rfl⟩,rfl,hres⟩
   obtain⟨E',L,hv,R'⟩:=R.backC hSp hnq hres;rw [V.shift_pureT _ _ hxp] at hv;refine⟨v,rfl,hT v w' E' (jZ (bk B i) pre t0) L hv ?_⟩;simpa only [List.map_nil,List.append_nil] using R'
  ·cases hf
 |callR nx ys x0 e0 s0 qs hu hFn hw hd hn hokk htt hss hpq hnq h ih=>
  rename_i d gd f xs l i pre;intro os F a hc htot S;obtain⟨o,os',rfl,c1,c2⟩:=kX hc;obtain⟨k1,k2,k3,k4⟩:=kY c1;obtain⟨more,hpre,hmore⟩:=h.ext;have hsub:∀e∈pre,e∈preF:=fun e he=>by rw [hpre];simp [he]
  refine run S (by simpa using htot) k4 k3 (fun r ob hr=>by injection hr with hr;injection hr with hr;subst hr;simp) (guard S hsub k2 hw) h (fun F' a' S'=>ih os' F' a' c2 (by simp at htot;omega) S') (fun g w E R hq T hT=>?_);obtain⟨aas,hxs,hrun⟩:=wC k1 a;unfold pO;rw [hrun w];have hevs:xs.map (X.ev ⟨N,bG pre t0,bM pre ob0⟩)=xs.map (X.ev ⟨N,jZ (bk B i) pre t0,dF g preF ob0⟩):=List.map_congr_left (yG hd);rw [hevs] at hokk htt hss hq hnq;have hres:=xee (σ:=⟨N,bG pre t0,bM pre ob0⟩) (σ':=⟨N,jZ (bk B i) pre t0,dF g preF ob0⟩) [] (fun q h=>hq q (List.mem_cons_of_mem _ h));rw [hres.1] at hss;rw [hres.2] at hokk;obtain⟨SS,hSS,hargs,hSp⟩:=xk8 R hxs hokk htt hss;refine(hFn w SS _ hSS hargs).mono ?_
  rintro e w' ⟨y,obs,v,⟨rfl,rfl⟩,rfl,hres⟩
  obtain⟨E',L,hv,R'⟩:=R.backC hSp hnq hres;simp only [List.map_cons,List.map_nil,Ob.shift,V.shift,V.shifts_pure _ _ hpq] at R';obtain⟨E'',k5,k6,k7⟩:=R.placeUp L hu hv R' rfl rfl rfl (by rw [←hn];exact(hq nx ξ).symm);exact⟨v,rfl,hT v w' E'' (jZ (bk B i) pre t0) k5 k6 k7⟩
 |xhv ids ys x hFn hw hd hA hxp hfr h ih=>
  rename_i d gd f xs l i pre;intro os F a hc htot S;obtain⟨o,os',rfl,c1,c2⟩:=kX hc;obtain⟨k1,k2,k3,k4⟩:=kY c1;obtain⟨more,hpre,hmore⟩:=h.ext;have hsub:∀e∈pre,e∈preF:=fun e he=>by rw [hpre];simp [he]
  refine run S (by simpa using htot) k4 k3 (fun _ _ h=>by cases h) (guard S hsub k2 hw) h (fun F' a' S'=>ih os' F' a' c2 (by simp at htot;omega) S') (fun g w E R hq T hT=>?_);obtain⟨aas,hxs,hrun⟩:=wC k1 a;unfold pO;rw [hrun w];have hevs:xs.map (X.ev ⟨N,bG pre t0,bM pre ob0⟩)=xs.map (X.ev ⟨N,jZ (bk B i) pre t0,dF g preF ob0⟩):=List.map_congr_left (yG hd);have hr0:=yD R hxs;rw [←hevs] at hr0;have hargs:=hA _ (fun q h=>(hq q h).symm) R hr0;refine(hFn w (fun b=>b<w.heap.size) _ (fun _ h=>h) hargs).mono ?_
  rintro e w' ⟨y,obs,v,⟨rfl,rfl⟩,rfl,hres⟩
  obtain⟨E',L,hv,R'⟩:=R.backC (ws:=[.junk]) (fun h=>by simp [V.pures,V.pure] at h) (.inr ⟨hfr,fun o ho=>by cases ho⟩) hres;rw [V.shift_pureT _ _ hxp] at hv;refine⟨v,rfl,hT v w' E' (jZ (bk B i) pre t0) L hv ?_⟩;simpa only [List.map_nil,List.append_nil] using R'
 |callM r g ws ys q T dc d0 d' x hFn hw hd hxs hob hdp fV hwp hys hp h ih=>
  rename_i d gd f xs l i pre;intro os F a hc htot S;obtain⟨o,os',rfl,c1,c2⟩:=kX hc;obtain⟨k1,k2,k3,k4⟩:=kY c1;obtain⟨more,hpre,hmore⟩:=h.ext;have hsub:∀e∈pre,e∈preF:=fun e he=>by rw [hpre];simp [he]
  refine run S (by simpa using htot) k4 k3 (fun r' ob hr=>by injection hr with hr;injection hr with hr;subst hr;simp) (guard S hsub k2 hw) h (fun F' a' S'=>ih os' F' a' c2 (by simp at htot;omega) S') (fun g' w E R hq T' hT=>?_);obtain⟨aas,hcx,hrun⟩:=wC k1 a;unfold pO;rw [hrun w];have hevs:xs.map (X.ev ⟨N,bG pre t0,bM pre ob0⟩)=xs.map (X.ev ⟨N,jZ (bk B i) pre t0,dF g' preF ob0⟩):=List.map_congr_left (yG hd);refine(xu8 R hcx hFn (by rw [←hevs];exact hxs) (by rw [←hob];exact(hq r ξ).symm) hdp fV hwp hys).mono ?_
  rintro e w' ⟨y,obs,c,v,⟨rfl,rfl,rfl⟩,rfl,E',L,hv,R'⟩
  rw [V.shift_pureT _ _ hp] at hv;refine⟨v,rfl,hT v w' E' (jZ (bk B i) pre t0) L hv ?_⟩;simpa only [List.map_nil,List.append_nil] using R'
 |callA r g ws ys kk e s q q' hFn hw hd hxs hob hk hi hwp hys h ih=>
  rename_i d gd f xs l i pre;intro os F a hc htot S;obtain⟨o,os',rfl,c1,c2⟩:=kX hc;obtain⟨k1,k2,k3,k4⟩:=kY c1;obtain⟨more,hpre,hmore⟩:=h.ext;have hsub:∀e∈pre,e∈preF:=fun e he=>by rw [hpre];simp [he]
  refine run S (by simpa using htot) k4 k3 (fun r' ob hr=>by injection hr with hr;injection hr with hr;subst hr;simp) (guard S hsub k2 hw) h (fun F' a' S'=>ih os' F' a' c2 (by simp at htot;omega) S') (fun g' w E R hq T' hT=>?_);obtain⟨aas,hcx,hrun⟩:=wC k1 a;unfold pO;rw [hrun w];have hevs:xs.map (X.ev ⟨N,bG pre t0,bM pre ob0⟩)=xs.map (X.ev ⟨N,jZ (bk B i) pre t0,dF g' preF ob0⟩):=List.map_congr_left (yG hd);refine(xu6 R hcx hFn (by rw [←hevs];exact hxs) (by rw [←hob];exact(hq r ξ).symm) hk hi hwp hys).mono ?_
  rintro e w' ⟨l',v,rfl,rfl,hi',E',L,hv,R'⟩
  exact⟨v,rfl,hT v w' E' (jZ (bk B i) pre t0) L hv R'⟩
 |g x fp wr hw hd hG h ih=>
  rename_i d gd k l i pre;intro os F a hc htot S;obtain⟨o,os',rfl,c1,c2⟩:=kX hc;obtain⟨k1,k2,k3,k4⟩:=kY c1;obtain⟨more,hpre,hmore⟩:=h.ext;have hsub:∀e∈pre,e∈preF:=fun e he=>by rw [hpre];simp [he]
  refine run S (by simpa using htot) k4 k3 hG.wf (guard S hsub k2 hw) h (fun F' a' S'=>ih os' F' a' c2 (by simp at htot;omega) S') (fun g w E R hq T hT=>?_);refine hG.h ⟨N,jZ (bk B i) pre t0,dF g preF ob0⟩ (fun y hy=>(yG hd y hy).symm) (fun q hqq=>(hq q hqq).symm) (by simp [xh4,xf8]) R k1 T (fun u w' E' L hu R'=>?_);refine hT u w' E' (jZ (bk B i) pre t0) L hu ?_;cases wr with
  |none=>exact R'
  |some p=>exact R'
 |gs x fp ws hw hd hG h ih=>
  rename_i d gd k l i pre;intro os F a hc htot S;obtain⟨o,os',rfl,c1,c2⟩:=kX hc;obtain⟨k1,k2,k3,k4⟩:=kY c1;obtain⟨more,hpre,hmore⟩:=h.ext;have hsub:∀e∈pre,e∈preF:=fun e he=>by rw [hpre];simp [he]
  have he0:(⟨i,d,x,false,fp,none⟩:En)∈preF:=by rw [hpre];simp
  have exs:∀e∈pF i x fp ws,e.j=i∧e.x=x∧e.s=false∧e.fp=fp:=fun e he=>by obtain⟨p,_,rfl⟩:=List.mem_map.1 he;exact⟨rfl,rfl,rfl,rfl⟩
  have uniq:∀e∈preF,e.j=i→e.x=x∧e.s=false:=by
   intro e he hj;rw [hpre] at he;rcases List.mem_append.1 he with he|he
   ·have:=hmore e he;omega
   ·rcases List.mem_append.1 he with he|he
    ·exact⟨(exs e he).2.1,(exs e he).2.2.1⟩
    ·rcases List.mem_cons.1 he with rfl|he
     ·exact⟨rfl,rfl⟩
     ·have:=S.lt e he;omega
  have shi:∀u,ShE x u→Shf preF i u:=fun u hu e he hj hs=>by rw [(uniq e he hj).1];exact hu
  have hpw:∀e∈(⟨i,d,x,false,fp,none⟩::pre:List En),e.j=i→e.wr=none:=by
   intro e he hj;rcases List.mem_cons.1 he with rfl|he
   ·rfl
   ·have:=S.lt e he;omega
  have hms:∀e∈more,e∈preF:=fun e he=>by rw [hpre];simp [he]
  have hwt:Region.wanted o (yielded ops a.tmps)=true:=guard S hsub k2 hw;have htot':i+(l.length+1)=total:=by simpa using htot
  unfold Gho.relWalk;rw [if_pos hwt,if_pos (by simp;omega)];refine⟨?_,?_,?_⟩
  ·obtain⟨u,hu⟩:=ShE.ex x
   exact⟨u,shi u hu⟩
  ·rintro g w ⟨E,hC⟩ hn hF
   have q1:=ycm S hC hF hsub;have late:∀q∈fp,∀e∈more,∀ob,e.wr=some (q,ob)→g e.j=none:=by
    intro q hq e he ob ho;have hin:=hms e he;have hes:e.s=false:=by
     cases hh:e.s with
     |false=>rfl
     |true=>rw [hsk e hin hh] at ho;cases ho
    have hlt:=hmore e he;rcases hcf e hin _ he0 (by show i<e.j;omega) hes rfl with h|h
    ·cases hg:g e.j with
     |none=>rfl
     |some u=>
      have:=hC.c e hin hes (by rw [hg];rfl) _ he0 rfl h;rw [show(⟨i,d,x,false,fp,none⟩:En).j=i from rfl,hn] at this;cases this
    ·exact absurd hq (h.2 q ob ho)
   have q2:∀q∈fp,(bM pre ob0)[q]?=(dF g preF ob0)[q]?:=by
    intro q hq;have h1:(dF g preF ob0)[q]?=(dF g pre ob0)[q]?:=by
     rw [hpre,show more++(pF i x fp ws++((⟨i,d,x,false,fp,none⟩:En)::pre))=(more++(pF i x fp ws++[⟨i,d,x,false,fp,none⟩]))++pre by simp];refine xre (fun e he ob ho=>?_);rcases List.mem_append.1 he with he|he
     ·exact late q hq e he ob ho
     ·rcases List.mem_append.1 he with he|he
      ·rw [(exs e he).1];exact hn
      ·simp at he;subst he;exact hn
    rw [h1];refine(xmg (fun e he ob ho=>?_)).symm;have hes:e.s=false:=by
     cases h:e.s with
     |false=>rfl
     |true=>rw [hsk e (hsub e he) h] at ho;cases ho
    have hlt:=S.lt e he;rcases hcf _ he0 e (hsub e he) (by show e.j<i;omega) rfl hes with h|h
    ·obtain⟨u,hu⟩:=S.inF e he hes
     rw [hF _ hu (by simpa using h)];rfl
    ·exact absurd hq (h.1 q ob ho)
   refine hG.h ⟨N,jZ (bk B i) pre t0,dF g preF ob0⟩ (fun y hy=>(yG hd y hy).symm) (fun q hqq=>(q2 q hqq).symm) (by simp [xh4,xf8]) q1 k1 _ (fun u w' E' L hx R=>?_);have hob:dF (Gho.upo g i u) preF ob0=lN ws (dF g preF ob0):=by
    rw [hpre];exact yez hn hpw (fun e he hj=>by have:=hmore e he;omega) (fun e he r o' ho hp=>by
     obtain⟨p,hp,rfl⟩:=hp;exact late p.1 (hG.wf p hp) e he o' ho)
   refine⟨⟨E',⟨hC.r.df,hC.r.n,fun s=>(hC.r.tm s).mono L,?_,?_,?_,R.lt,R.fr,R.old,R.keep⟩,fun e he hs v hv=>?_,fun e he hs hg e' he' hs' hb=>?_⟩,fun e he hj hs=>?_⟩
   ·rw [hob];exact R.len
   ·rw [hob];exact R.ob
   ·rw [hob];exact R.sep
   ·by_cases e1:e.j=i
    ·rw [e1,Gho.upo_same] at hv
     obtain rfl:=Option.some.inj hv;rw [(uniq e he e1).1];exact hx
    ·rw [Gho.upo_ne g u e1] at hv
     exact(hC.x e he hs v hv).mono L
   ·by_cases e2:e'.j=i
    ·rw [e2,Gho.upo_same];rfl
    ·rw [Gho.upo_ne g u e2]
     by_cases e1:e.j=i
     ·rw [e1] at hb
      have hlt:=hbl i ω e'.j (by simpa using hb);have hin:e'∈pre:=by
       rw [hpre] at he';rcases List.mem_append.1 he' with he'|he'
       ·have:=hmore e' he';omega
       ·rcases List.mem_append.1 he' with he'|he'
        ·exact absurd (exs e' he').1 e2
        ·rcases List.mem_cons.1 he' with rfl|he'
         ·exact absurd rfl e2
         ·exact he'
      obtain⟨v,hv⟩:=S.inF e' hin hs';rw [hF _ hv (by simpa using hb)];rfl
     ·rw [Gho.upo_ne g u e1] at hg
      exact hC.c e he hs hg e' he' hs' hb
   ·rw [(uniq e he hj).1]
    exact ShE.of hx
  ·intro u hu
   rw [k3];refine ih os' _ _ c2 (by simp at htot;omega) ⟨fun e he=>?_,fun e he hs=>?_,?_,fun e he hs=>?_,fun y hy=>?_⟩
   ·rcases List.mem_append.1 he with he|he
    ·rw [(exs e he).1];exact Nat.lt_succ_self _
    ·rcases List.mem_cons.1 he with rfl|he
     ·exact Nat.lt_succ_self _
     ·have:=S.lt e he;omega
   ·rcases List.mem_append.1 he with he|he
    ·rw [(exs e he).2.2.1] at hs;cases hs
    ·rcases List.mem_cons.1 he with rfl|he
     ·cases hs
     ·exact S.sk e he hs
   ·have hf:=S.fr.put (i:=i) (x:=x) (u:=u) (fp:=fp) (wr:=none) k4
    exact⟨hf.df,hf.n,fun s=>by rw [xwm (F:=(i,u)::F) (fr:=sU ((i,u)::F)) (fun _ _ _ _ _ _=>rfl)];exact hf.s s⟩
   ·rcases List.mem_append.1 he with he|he
    ·exact⟨u,by rw [(exs e he).1];simp⟩
    ·rcases List.mem_cons.1 he with rfl|he
     ·exact⟨u,by simp⟩
     ·obtain⟨v,hv⟩:=S.inF e he hs
      exact⟨v,by simp [hv]⟩
   ·rcases List.mem_cons.1 hy with rfl|hy
    ·exact hu
    ·exact S.sh y hy
theorem xux {ops:Array Oper}:∀{os:List Oper} {l:List RO},wE P N ops os=some l→os.length=l.length
 |[],l,h=>by simp only [wE,Option.some.injEq] at h;subst h;rfl
 |o::os,l,h=>by
  simp only [wE] at h;split at h
  ·rename_i h1 h2
   cases h;simp [xux h2]
  ·cases h
theorem yki {cx:Cx} {k:List It} {Q:Exit→Act→World→Prop} (hm:P.follows .mixedOrders=true) {l:List RO} (hbl:∀i,i<l.length→∀j∈bk B i,j<i) (h:∃preF,xfz B preF∧(∀e∈preF,e.s=true→e.wr=none)∧Ok P N t0 ob0 B preF l 0 []∧Ev P cx N Q k ⟨N,bG preF t0,bM preF ob0⟩):Ev P cx N Q (.code (.dreg l B)::k) ⟨N,t0,ob0⟩:=by
 obtain⟨preF,hcf,hsk,hok,hfin⟩:=h;refine⟨fun hn E a w R=>?_⟩;rw [rP];intro c hc;cases c<;>simp only [comp] at hc
 case region id ops draw=>
  split at hc
  ·rename_i h1
   cases draw with
   |false=>simp at hc
   |true=>
    simp only [if_true] at hc;split at hc
    ·rename_i h2
     simp only [Option.some.injEq,MC.dreg.injEq] at hc;obtain⟨rfl,rfl⟩:=hc;have e:ops=ops.toList.toArray:=by simp
     have hcode:Code.region id ops true=Code.region id ops.toList.toArray true:=by rw [←e]
     rw [hcode];have hlen:=xux h1;refine Gho.region (Cof cx N t0 ob0 (xhd ops) preF a) (List.range ops.toList.length) (Shf preF) hm (by rw [←e];exact h2) ⟨E,⟨by rw [xrf (fun _=>rfl)];exact R.drew,fun e he hs u hu=>(by cases hu),fun e _ _ hg=>(by cases hg)⟩⟩ ?_;intro C' hC' _;have hC':=hC'.out;subst hC';rw [←e];refine yq2 (fun E a w R _=>hfin.h rfl E a w R) (fun s c hs=>?_) (fun s hs=>?_) hcf hsk (fun i hi=>hbl i (by rw [←hlen];exact hi)) hok ops.toList [] a h1 (by rw [Nat.zero_add,hlen]) ⟨fun e he=>(by cases he),fun e he=>(by cases he),⟨R.df,by rw [R.n],fun s=>rfl⟩,fun e he=>(by cases he),fun x hx=>(by cases hx)⟩
     ·have hr:=R.tm s
      rw [show aV (⟨N,t0,ob0⟩:AS).t s=.bool c from hs] at hr;exact xca hr
     ·have hr:=R.tm s
      rw [show aV (⟨N,t0,ob0⟩:AS).t s=.tup [] from hs] at hr;simp only [RdT,RdTs] at hr;obtain⟨vs,h1,rfl⟩:=hr;exact h1
    ·cases hc
  ·cases hc
 all_goals (first|cases hc|(split at hc<;>first|cases hc|(split at hc<;>first|cases hc|(split at hc<;>cases hc)))|(simp at hc))
end
end Rdn.Dp
namespace Rdn.Dp
open Go Go.RowKit Rdn
abbrev Lg:=Nat×List Nat×Option Nat
def jQ (i:Nat) (fp:List Nat) (wr:Option Nat) (lg:List Lg):List Lg:=if fp.isEmpty=true then lg else(i,fp,wr)::lg
def yN:List En→List Lg
 |[]=>[]
 |e::l=>if e.s=true then yN l else jQ e.j e.fp (e.wr.map (·.1)) (yN l)
def xg3 (B:List (List Nat)):List Lg→Bool
 |[]=>true
 |(i,fp,wr)::l=>l.all (fun p=>p.1==i||(bk B i).contains p.1||(p.2.2.all (fun r=>!fp.contains r) && wr.all (fun r=>!p.2.1.contains r))) && xg3 B l
theorem yap:∀{l:List En} {e:En},e∈l→e.s=false→e.fp≠[]→(e.j,e.fp,e.wr.map (·.1))∈yN l
 |e'::l,e,h,hs,hf=>by
  unfold yN jQ;rcases List.mem_cons.1 h with rfl|h
  ·rw [if_neg (by simp [hs]),if_neg (by simpa using hf)];simp
  ·have ih:=yap h hs hf
   split
   ·exact ih
   ·split
    ·exact ih
    ·simp [ih]
theorem xul {B:List (List Nat)}:∀{pre:List En},pre.Pairwise (fun e e'=>e'.j≤e.j)→(∀e∈pre,e.s=true∨e.fp=[]→e.wr=none)→xg3 B (yN pre)=true→xfz B pre
 |[],_,_,_=>fun e he=>by cases he
 |e0::l,hp,hw,h=>by
  have hp':=List.pairwise_cons.1 hp;have htl:xg3 B (yN l)=true:=by
   unfold yN jQ at h;split at h
   ·exact h
   ·split at h
    ·exact h
    ·simp only [xg3,Bool.and_eq_true] at h;exact h.2
  have ih:=xul hp'.2 (fun e he=>hw e (by simp [he])) htl;intro e he e' he' hlt hs hs';rcases List.mem_cons.1 he with rfl|he1
  ·rcases List.mem_cons.1 he' with rfl|he2
   ·omega
   ·by_cases hf:e.fp=[]
    ·have:=hw e ξ (.inr hf)
     right;refine⟨fun r o ho hr=>(by rw [hf] at hr;cases hr),fun r o ho=>(by rw [this] at ho;cases ho)⟩
    ·by_cases hf':e'.fp=[]
     ·have:=hw e' (by simp [he2]) (.inr hf')
      right;refine⟨fun r o ho=>(by rw [this] at ho;cases ho),fun r o ho hr=>(by rw [hf'] at hr;cases hr)⟩
     ·unfold yN jQ at h
      rw [if_neg (by simp [hs]),if_neg (by simpa using hf)] at h;simp only [xg3,Bool.and_eq_true] at h;have:=List.all_eq_true.1 h.1 _ (yap he2 hs' hf');simp only [Bool.or_eq_true,Bool.and_eq_true] at this;rcases this with (h|h)|⟨h1,h2⟩
      ·have:=eq_of_beq h;omega
      ·exact .inl h
      ·right
       refine⟨fun r o ho=>?_,fun r o ho=>?_⟩
       ·rw [ho] at h1;simpa using h1
       ·rw [ho] at h2;simpa using h2
  ·rcases List.mem_cons.1 he' with rfl|he2
   ·have:=hp'.1 e he1;omega
   ·exact ih e he1 e' he2 hlt hs hs'
structure Pr (N:Nat) (t0:List (Nat×V)) (ob0:List Ob) (B:List (List Nat)) (l:List RO) (i:Nat) (σ:AS) (lg:List Lg) (pre:List En):Prop where
 st:σ=⟨N,bG pre t0,bM pre ob0⟩
 lg:lg=yN pre
 dp:yF B l i (rD pre)=true
 pw:pre.Pairwise (fun e e'=>e'.j≤e.j)
 lt:∀e∈pre,e.j<i
 wr:∀e∈pre,e.s=true∨e.fp=[]→e.wr=none
structure EvW (P:Program) (cx:Cx) (N:Nat) (Q:Exit→Act→World→Prop) (k:List It) (t0:List (Nat×V)) (ob0:List Ob) (B:List (List Nat)) (l:List RO) (i:Nat) (σ:AS) (lg:List Lg) (nx:Nat):Prop where
 h:∀pre,Pr N t0 ob0 B l i σ lg pre→∃preF,xfz B preF∧(∀e∈preF,e.s=true→e.wr=none)∧Ok P N t0 ob0 B preF l i pre∧Ev P cx N Q k ⟨N,bG preF t0,bM preF ob0⟩
section
variable {P:Program} {cx:Cx} {N:Nat} {Q:Exit→Act→World→Prop} {k:List It} {t0:List (Nat×V)} {ob0:List Ob} {B:List (List Nat)} {l:List RO} {i nx:Nat} {σ:AS} {lg:List Lg}
theorem Pr.next {r:RO} {pre:List En} (h:Pr N t0 ob0 B (r::l) i σ lg pre) {σ':AS} {lg':List Lg} (x:V) (s:Bool) (fp:List Nat) (wr:Option (Nat×Ob)) (hs:σ'=⟨N,bG (⟨i,r.d,x,s,fp,wr⟩::pre) t0,bM (⟨i,r.d,x,s,fp,wr⟩::pre) ob0⟩)
  (hl:lg'=if s=true then lg else jQ i fp (wr.map (·.1)) lg) (hw:s=true∨fp=[]→wr=none):Pr N t0 ob0 B l (i+1) σ' lg' (⟨i,r.d,x,s,fp,wr⟩::pre):=by
 have hd:=h.dp;simp only [yF,Bool.and_eq_true] at hd;refine⟨hs,?_,hd.2.2,List.pairwise_cons.2 ⟨fun e he=>Nat.le_of_lt (h.lt e he),h.pw⟩,fun e he=>?_,fun e he hh=>?_⟩
 ·rw [hl];simp only [yN,h.lg]
 ·rcases List.mem_cons.1 he with rfl|he
  ·exact Nat.lt_succ_self _
  ·have:=h.lt e he;omega
 ·rcases List.mem_cons.1 he with rfl|he
  ·exact hw hh
  ·exact h.wr e he hh
theorem Pr.dep {r:RO} {pre:List En} (h:Pr N t0 ob0 B (r::l) i σ lg pre):tV (bk B i) (rD pre) (xsK r.k)=true:=by
 have hd:=h.dp;simp only [yF,Bool.and_eq_true] at hd;exact hd.2.1
theorem xak {n n':Nat} {t:List (Nat×V)} {ob ob':List Ob} {gd:Option (Nat×Bool)}:bQ ⟨n,t,ob⟩ gd=bQ ⟨n',t,ob'⟩ gd:=by cases gd<;>rfl
theorem dI (hc:xg3 B lg=true) (h:Ev P cx N Q k σ):EvW P cx N Q k t0 ob0 B [] i σ lg nx:=
 ⟨fun pre p=>⟨pre,xul p.pw p.wr (by rw [←p.lg];exact hc),fun e he hs=>p.wr e he (.inl hs),.nil rfl,by rw [←p.st];exact h⟩⟩
theorem xco {r:RO} (hw:bQ σ r.gd=some false) (h:EvW P cx N Q k t0 ob0 B l (i+1) (σ.put r.d (.tup [])) lg nx):EvW P cx N Q k t0 ob0 B (r::l) i σ lg nx:=by
 refine⟨fun pre p=>?_⟩;obtain⟨pf,h1,h2,h3,h4⟩:=h.h _ (p.next (.tup []) true [] none (by rw [p.st];cases r.d<;>rfl) rfl (fun _=>rfl));exact⟨pf,h1,h2,.skip (by rw [p.st,xak (ob':=[])] at hw;exact hw) h3,h4⟩
theorem yl3 {d:Option Nat} {gd:Option (Nat×Bool)} {m:POp} (hw:bQ σ gd=some true) (hc:(iF σ m).2) (h:EvW P cx N Q k t0 ob0 B l (i+1) (σ.put d (iF σ m).1) (jQ i (fpP σ m) none lg) nx):EvW P cx N Q k t0 ob0 B (⟨d,gd,.p m⟩::l) i σ lg nx:=by
 refine⟨fun pre p=>?_⟩;obtain⟨pf,h1,h2,h3,h4⟩:=h.h _ (p.next (iF σ m).1 false (fpP σ m) none (by rw [p.st];cases d<;>rfl) rfl (fun _=>rfl));have hd:=p.dep;obtain rfl:=p.st;exact⟨pf,h1,h2,.p (by rw [←xak];exact hw) hd hc h3,h4⟩
theorem yl2 {d:Option Nat} {gd:Option (Nat×Bool)} {m:MOp} (hw:bQ σ gd=some true) (hc:(qY σ m).2) (h:EvW P cx N Q k t0 ob0 B l (i+1) (σ.put d (qY σ m).1) (jQ i (lL σ m) none lg) nx):EvW P cx N Q k t0 ob0 B (⟨d,gd,.m m⟩::l) i σ lg nx:=by
 refine⟨fun pre p=>?_⟩;obtain⟨pf,h1,h2,h3,h4⟩:=h.h _ (p.next (qY σ m).1 false (lL σ m) none (by rw [p.st];cases d<;>rfl) rfl (fun _=>rfl));have hd:=p.dep;obtain rfl:=p.st;exact⟨pf,h1,h2,.f (by rw [←xak];exact hw) hd hc h3,h4⟩
theorem yl4 {d:Option Nat} {gd:Option (Nat×Bool)} {m:MOp} (hw:bQ σ gd=some true) (hW:isW σ m=true) (hc:(dV σ m).2.2) (h:EvW P cx N Q k t0 ob0 B l (i+1) ((⟨σ.n,σ.t,(dV σ m).2.1.ob⟩:AS).put d (dV σ m).1) (jQ i (lL σ m) (xW σ m) lg) nx):EvW P cx N Q k t0 ob0 B (⟨d,gd,.m m⟩::l) i σ lg nx:=by
 have hloc:=xny (σ:=σ) (σ':=σ) (fun _ _=>rfl) (fun _ _=>rfl) hW hc;refine⟨fun pre p=>?_⟩;have hwr:(xdh σ (dV σ m).2.1 m=none∧xW σ m=none∧(dV σ m).2.1.ob=σ.ob)∨∃r o,xdh σ (dV σ m).2.1 m=some (r,o)∧xW σ m=some r∧r∈lL σ m∧(dV σ m).2.1.ob=σ.ob.set r o:=by
  rcases hloc.2.2 with ⟨e1,e2,e3⟩|⟨r',o',e1,e2,e3,e4,e5⟩
  ·exact .inl ⟨by simp only [xdh,e1],e1,e2⟩
  ·exact .inr ⟨r',o',by simp only [xdh,e1,e4,List.getElem?_set_self e3,Option.map_some],e1,e2,e4⟩
 obtain⟨pf,h1,h2,h3,h4⟩:=h.h _ (p.next (dV σ m).1 false (lL σ m) (xdh σ (dV σ m).2.1 m) (by
  rcases hwr with ⟨e1,e2,e3⟩|⟨r,o,e1,e2,e3,e4⟩
  ·rw [e1,e3,p.st];cases d<;>rfl
  ·rw [e1,e4,p.st];cases d<;>rfl) (by
  rcases hwr with ⟨e1,e2,e3⟩|⟨r,o,e1,e2,e3,e4⟩
  ·rw [e1,e2];rfl
  ·rw [e1,e2];rfl) (fun hh=>by
  rcases hwr with ⟨e1,e2,e3⟩|⟨r,o,e1,e2,e3,e4⟩
  ·exact e1
  ·rcases hh with hh|hh
   ·cases hh
   ·rw [hh] at e3;cases e3))
 have hd:=p.dep;obtain rfl:=p.st;exact⟨pf,h1,h2,.w (by rw [←xak];exact hw) hd hW hc h3,h4⟩
theorem ykw {d:Option Nat} {gd:Option (Nat×Bool)} {m:MOp} (hw:bQ σ gd=some true) (hn:σ.ob[nx]?=some kP) (hc:(oW σ nx m).2.2) (h:EvW P cx N Q k t0 ob0 B l (i+1) ((⟨σ.n,σ.t,σ.ob.set nx (oW σ nx m).2.1⟩:AS).put d (oW σ nx m).1) (jQ i (nx::lL σ m) (some nx) lg) (nx+1)):EvW P cx N Q k t0 ob0 B (⟨d,gd,.m m⟩::l) i σ lg nx:=by
 refine⟨fun pre p=>?_⟩;obtain⟨pf,h1,h2,h3,h4⟩:=h.h _ (p.next (oW σ nx m).1 false (nx::lL σ m) (some (nx,(oW σ nx m).2.1)) (by rw [p.st];cases d<;>rfl) rfl (fun hh=>by rcases hh with hh|hh<;>cases hh));have hd:=p.dep;obtain rfl:=p.st;exact⟨pf,h1,h2,.c nx (by rw [←xak];exact hw) hd hn hc h3,h4⟩
theorem ykx {d:Option Nat} {gd:Option (Nat×Bool)} {f:FuncId} {xs:List X} (ys:List V) (x:V) {ws:List V} (hF:Fnc P f ys fun y obs=>y=x∧obs=[]) (hw:bQ σ gd=some true)
  (hx:xs.map (X.ev σ)=ws) (hok:V.ressOk σ ws∧pK ws) (hs:Subs (V.lows (V.ress σ [] ws)) ys) (hp:V.pureT x=true) (hq:yS ws x [])
  (h:EvW P cx N Q k t0 ob0 B l (i+1) (σ.put d x) (jQ i (V.idss ws) none lg) nx):EvW P cx N Q k t0 ob0 B (⟨d,gd,.call f xs⟩::l) i σ lg nx:=by
 subst hx;refine⟨fun pre p=>?_⟩;obtain⟨pf,h1,h2,h3,h4⟩:=h.h _ (p.next x false (V.idss (xs.map (X.ev σ))) none (by rw [p.st];cases d<;>rfl) rfl (fun _=>rfl));have hd:=p.dep;obtain rfl:=p.st;exact⟨pf,h1,h2,.call ys x hF (by rw [←xak];exact hw) hd hok.1 hok.2 hs hp hq h3,h4⟩
theorem yl1 {d:Option Nat} {gd:Option (Nat×Bool)} {f:FuncId} {x0:X} {xs:List X} {cs:List V} (ys:List V) (x:V) {ws:List V} (hF:Fnc P f ys fun y obs=>y=x∧obs=[]) (hf:okF P f=true) (hv:xdo (X.ev σ x0)=some (f,cs)) (hw:bQ σ gd=some true)
  (hx:xs.map (X.ev σ)++cs=ws) (hok:V.ressOk σ ws∧pK ws) (hs:Subs (V.lows (V.ress σ [] ws)) ys) (hp:V.pureT x=true) (hq:yS ws x [])
  (h:EvW P cx N Q k t0 ob0 B l (i+1) (σ.put d x) (jQ i (V.idss ws) none lg) nx):EvW P cx N Q k t0 ob0 B (⟨d,gd,.callv x0 xs⟩::l) i σ lg nx:=by
 subst hx;refine⟨fun pre p=>?_⟩;obtain⟨pf,h1,h2,h3,h4⟩:=h.h _ (p.next x false (V.idss (xs.map (X.ev σ)++cs)) none (by rw [p.st];cases d<;>rfl) rfl (fun _=>rfl));have hd:=p.dep;obtain rfl:=p.st;exact⟨pf,h1,h2,.callV ys x hF hf hv (by rw [←xak];exact hw) hd hok.1 hok.2 hs hp hq h3,h4⟩
theorem yl0 {d:Option Nat} {gd:Option (Nat×Bool)} {f:FuncId} {xs:List X} (ys:List V) {x0:V} {e s:Nat} {qs:List V} {ws:List V} (hu:x0.upOk=true) (hF:Fnc P f ys fun y obs=>y=x0∧obs=[⟨.row e,true,0,.arr s qs⟩]) (hw:bQ σ gd=some true) (hn:σ.ob[nx]?=some kP)
  (hx:xs.map (X.ev σ)=ws) (hok:V.ressOk σ ws∧pK ws) (hs:Subs (V.lows (V.ress σ [] ws)) ys) (hp:V.pures qs=true) (hq:yS ws x0 [⟨.row e,true,0,.arr s qs⟩])
  (h:EvW P cx N Q k t0 ob0 B l (i+1) ((⟨σ.n,σ.t,σ.ob.set nx ⟨.row e,true,1,.arr s qs⟩⟩:AS).put d (x0.up nx)) (jQ i (nx::V.idss ws) (some nx) lg) (nx+1)):EvW P cx N Q k t0 ob0 B (⟨d,gd,.call f xs⟩::l) i σ lg nx:=by
 subst hx;refine⟨fun pre p=>?_⟩;obtain⟨pf,h1,h2,h3,h4⟩:=h.h _ (p.next (x0.up nx) false (nx::V.idss (xs.map (X.ev σ))) (some (nx,⟨.row e,true,1,.arr s qs⟩)) (by rw [p.st];cases d<;>rfl) rfl (fun hh=>by rcases hh with hh|hh<;>cases hh));have hd:=p.dep;obtain rfl:=p.st;exact⟨pf,h1,h2,.callR nx ys x0 e s qs hu hF (by rw [←xak];exact hw) hd hn hok.1 hok.2 hs hp hq h3,h4⟩
theorem ykz {d:Option Nat} {gd:Option (Nat×Bool)} {f:FuncId} {xs:List X} {r g:Nat} {ws ys:List V} {q:Bool} {T:TypeId} {dc d0 d' x:V} (hF:FncM P f T d0 ys fun y obs c=>y=x∧obs=[]∧c=d') (hw:bQ σ gd=some true)
  (hx:xs.map (X.ev σ)=.ptr r g [] 0::ws) (hob:σ.ob[r]?=some ⟨.box q T,true,g,dc⟩) (hdp:dc.pure=true) (fV:dc.low=d0) (hwp:V.pures ws=true) (hys:V.lows ws=ys) (hp:V.pureT x=true)
  (h:EvW P cx N Q k t0 ob0 B l (i+1) ((⟨σ.n,σ.t,σ.ob.set r ⟨.box q T,true,g,d'⟩⟩:AS).put d x) (jQ i [r] (some r) lg) nx):EvW P cx N Q k t0 ob0 B (⟨d,gd,.call f xs⟩::l) i σ lg nx:=by
 refine⟨fun pre p=>?_⟩;obtain⟨pf,h1,h2,h3,h4⟩:=h.h _ (p.next x false [r] (some (r,⟨.box q T,true,g,d'⟩)) (by rw [p.st];cases d<;>rfl) rfl (fun hh=>by rcases hh with hh|hh<;>cases hh));have hd:=p.dep;obtain rfl:=p.st;exact⟨pf,h1,h2,.callM r g ws ys q T dc d0 d' x hF (by rw [←xak];exact hw) hd hx hob hdp fV hwp hys hp h3,h4⟩
theorem yky {d:Option Nat} {gd:Option (Nat×Bool)} {f:FuncId} {xs:List X} {r g:Nat} {ws ys:List V} {kk:OK} {e s:Nat} {q q':List V} (hF:FncA P f e s q ys (· =q')) (hw:bQ σ gd=some true)
  (hx:xs.map (X.ev σ)=.own r g::ws) (hob:σ.ob[r]?=some ⟨kk,true,g,.arr s q⟩) (hk:kk=.row e∨∃p,kk=.rows p e) (hi:q.all V.isInt=true) (hwp:V.pures ws=true) (hys:V.lows ws=ys)
  (h:EvW P cx N Q k t0 ob0 B l (i+1) ((⟨σ.n,σ.t,σ.ob.set r ⟨kk,true,g+1,.arr s q'⟩⟩:AS).put d (.own r (g+1))) (jQ i [r] (some r) lg) nx):EvW P cx N Q k t0 ob0 B (⟨d,gd,.call f xs⟩::l) i σ lg nx:=by
 refine⟨fun pre p=>?_⟩;obtain⟨pf,h1,h2,h3,h4⟩:=h.h _ (p.next (.own r (g+1)) false [r] (some (r,⟨kk,true,g+1,.arr s q'⟩)) (by rw [p.st];cases d<;>rfl) rfl (fun hh=>by rcases hh with hh|hh<;>cases hh));have hd:=p.dep;obtain rfl:=p.st;exact⟨pf,h1,h2,.callA r g ws ys kk e s q q' hF (by rw [←xak];exact hw) hd hx hob hk hi hwp hys h3,h4⟩
theorem xdu {d:Option Nat} {gd:Option (Nat×Bool)} {rk:RK} {x:V} {fp:List Nat} {wr:Option (Nat×Ob)} (hG:Gen P σ rk x fp wr) (hw:bQ σ gd=some true)
  (h:EvW P cx N Q k t0 ob0 B l (i+1) ((⟨σ.n,σ.t,xho σ.ob wr⟩:AS).put d x) (jQ i fp (wr.map (·.1)) lg) nx):EvW P cx N Q k t0 ob0 B (⟨d,gd,rk⟩::l) i σ lg nx:=by
 refine⟨fun pre p=>?_⟩;have hst:(⟨σ.n,σ.t,xho σ.ob wr⟩:AS).put d x=⟨N,bG (⟨i,d,x,false,fp,wr⟩::pre) t0,bM (⟨i,d,x,false,fp,wr⟩::pre) ob0⟩:=by
  rw [p.st];cases d<;>cases wr<;>rfl
 obtain⟨pf,h1,h2,h3,h4⟩:=h.h _ (p.next x false fp wr hst rfl (fun hh=>by
  rcases hh with hh|hh
  ·cases hh
  ·cases wr with
   |none=>rfl
   |some q=>have:=hG.wf q.1 q.2 rfl;rw [hh] at this;cases this))
 have hd:=p.dep;obtain rfl:=p.st;exact⟨pf,h1,h2,.g x fp wr (by rw [←xak];exact hw) hd hG h3,h4⟩
theorem yq1 {b:List Nat} {s:Nat} {j:Nat} {ds:List (Nat×Option Nat)}:uS b s ((j,none)::ds)=uS b s ds:=by simp [uS]
theorem yiq {b:List Nat} {ds ds':List (Nat×Option Nat)} (h:∀s,uS b s ds=uS b s ds') (xs:List X):tV b ds xs=tV b ds' xs:=by
 unfold tV
 congr 1
 funext x
 congr 1
 funext s;exact h s
theorem xv8 {B:List (List Nat)}:∀{l:List RO} {i:Nat} {ds ds':List (Nat×Option Nat)},(∀b s,uS b s ds=uS b s ds')→yF B l i ds=yF B l i ds'
 |[],_,_,_,_=>rfl
 |r::l,i,ds,ds',h=>by
  unfold yF;rw [yiq (h _),xv8 (l:=l) (ds:=(i,r.d)::ds) (ds':=(i,r.d)::ds') (fun b s=>by unfold uS;rw [h])]
theorem ybe {i:Nat} {x:V} {fp:List Nat} {b:List Nat} {s:Nat}:∀{ws:List (Nat×Ob)} {pre:List En},uS b s (rD (pF i x fp ws++pre))=uS b s (rD pre)
 |[],_=>rfl
 |p::ws,pre=>by
  have ih:=ybe (i:=i) (x:=x) (fp:=fp) (b:=b) (s:=s) (ws:=ws) (pre:=pre);unfold pF rD at ih⊢;rw [List.map_cons,List.cons_append,List.map_cons,yq1,ih]
def lgs (i:Nat) (fp:List Nat) (rs:List Nat) (lg:List Lg):List Lg:=rs.foldr (fun r lg=>(i,fp,some r)::lg) lg
theorem xxp {i:Nat} {x:V} {fp:List Nat} (hf:fp≠[]):∀{ws:List (Nat×Ob)} {pre:List En},yN (pF i x fp ws++pre)=lgs i fp (ws.map (·.1)) (yN pre)
 |[],_=>rfl
 |p::ws,pre=>by
  have ih:=xxp (i:=i) (x:=x) (fp:=fp) hf (ws:=ws) (pre:=pre);unfold pF lgs at ih⊢;simp only [List.map_cons,List.cons_append,yN,jQ,Bool.false_eq_true,if_false,List.foldr_cons,ih,Option.map_some];rw [if_neg (by simpa using hf)]
theorem xic {d:Option Nat} {gd:Option (Nat×Bool)} {rk:RK} {x:V} {fp:List Nat} {ws:List (Nat×Ob)} (hG:GenL P σ rk x fp ws) (hf:fp≠[]) (hw:bQ σ gd=some true)
  (h:EvW P cx N Q k t0 ob0 B l (i+1) ((⟨σ.n,σ.t,lN ws σ.ob⟩:AS).put d x) (lgs i fp (ws.map (·.1)) (jQ i fp none lg)) nx):EvW P cx N Q k t0 ob0 B (⟨d,gd,rk⟩::l) i σ lg nx:=by
 refine⟨fun pre p=>?_⟩;have p1:Pr N t0 ob0 B l (i+1) (σ.put d x) (jQ i fp none lg) (⟨i,d,x,false,fp,none⟩::pre):=p.next (r:=⟨d,gd,rk⟩) x false fp none (by rw [p.st];cases d<;>rfl) rfl (fun _=>rfl);have exs:∀e∈pF i x fp ws,e.j=i∧e.s=false∧e.fp=fp:=fun e he=>by obtain⟨q,_,rfl⟩:=List.mem_map.1 he;exact⟨rfl,rfl,rfl⟩
 have p2:Pr N t0 ob0 B l (i+1) ((⟨σ.n,σ.t,lN ws σ.ob⟩:AS).put d x) (lgs i fp (ws.map (·.1)) (jQ i fp none lg)) (pF i x fp ws++(⟨i,d,x,false,fp,none⟩::pre)):=by
  refine⟨?_,?_,?_,?_,fun e he=>?_,fun e he hh=>?_⟩
  ·rw [yeh,yb4,p.st]
   cases d<;>rfl
  ·rw [xxp hf,p1.lg]
  ·rw [←p1.dp]
   exact xv8 fun b s=>ybe
  ·refine List.pairwise_append.2 ⟨?_,p1.pw,fun e he e' he'=>?_⟩
   ·unfold pF
    rw [List.pairwise_map];exact List.pairwise_iff_forall_sublist.2 (fun _=>Nat.le_refl _)
   ·rw [(exs e he).1]
    have:=p1.lt e' he';omega
  ·rcases List.mem_append.1 he with he|he
   ·rw [(exs e he).1];exact Nat.lt_succ_self _
   ·exact p1.lt e he
  ·rcases List.mem_append.1 he with he|he
   ·rcases hh with hh|hh
    ·rw [(exs e he).2.1] at hh;cases hh
    ·rw [(exs e he).2.2] at hh;exact absurd hh hf
   ·exact p1.wr e he hh
 obtain⟨pf,h1,h2,h3,h4⟩:=h.h _ p2;have hd:=p.dep;obtain rfl:=p.st;exact⟨pf,h1,h2,.gs x fp ws (by rw [←xak];exact hw) hd hG h3,h4⟩
theorem yks {d:Option Nat} {gd:Option (Nat×Bool)} {rk:RK} {x:V} {fp:List Nat} {ws:List (Nat×Ob)} (hG:GenL P σ rk x fp ws) (hw:bQ σ gd=some true) (h:EvR P cx N Q k l ((⟨σ.n,σ.t,lN ws σ.ob⟩:AS).put d x)):EvR P cx N Q k (⟨d,gd,rk⟩::l) σ:=by
 refine⟨fun hn E a w R ops os hcc=>?_⟩;obtain⟨o,os',rfl,h1,h2⟩:=kX hcc;obtain⟨k1,k2,k3,k4⟩:=kY h1;unfold wpList;rw [if_pos (uH R k2 hw)];refine .inl ?_;have key:=hG.h σ (fun _ _=>rfl) (fun _ _=>rfl) rfl R k1 (fun u w'=>wpList P ops (lT P cx N Q k) os' (a.put o.dst u) w') (fun u w' E' L hu R'=>by
  rw [show o.dst=d from k3];exact h.h (by rw [AS.put_n];exact hn) E' _ w' (R'.put (d:=d) (fun i hi=>by show i<σ.n;rw [show σ.n=N from hn];exact k4 i hi) hu) ops os' h2)
 unfold pO xfh at key;unfold Oper.wp;split at key
 ·rename_i e;rw [e,Oper.upon_value];exact key
 ·rename_i e;rw [e,Oper.upon_skip];exact key
 ·rename_i e
  rw [e,Oper.upon_enter];refine key.mono ?_
  rintro e w' ⟨u,rfl,hu⟩
  exact hu
 ·exact key.elim
theorem xbt {d:Option Nat} {gd:Option (Nat×Bool)} {rk:RK} {x:V} {fp:List Nat} {wr:Option (Nat×Ob)} (hG:Gen P σ rk x fp wr) (hw:bQ σ gd=some true) (h:EvR P cx N Q k l ((⟨σ.n,σ.t,xho σ.ob wr⟩:AS).put d x)):EvR P cx N Q k (⟨d,gd,rk⟩::l) σ:=by
 refine⟨fun hn E a w R ops os hcc=>?_⟩;obtain⟨o,os',rfl,h1,h2⟩:=kX hcc;obtain⟨k1,k2,k3,k4⟩:=kY h1;unfold wpList;rw [if_pos (uH R k2 hw)];refine .inl ?_;have key:=hG.h σ (fun _ _=>rfl) (fun _ _=>rfl) rfl R k1 (fun u w'=>wpList P ops (lT P cx N Q k) os' (a.put o.dst u) w') (fun u w' E' L hu R'=>by
  rw [show o.dst=d from k3];exact h.h (by rw [AS.put_n];exact hn) E' _ w' (R'.put (d:=d) (fun i hi=>by show i<σ.n;rw [show σ.n=N from hn];exact k4 i hi) hu) ops os' h2)
 unfold pO xfh at key;unfold Oper.wp;split at key
 ·rename_i e;rw [e,Oper.upon_value];exact key
 ·rename_i e;rw [e,Oper.upon_skip];exact key
 ·rename_i e
  rw [e,Oper.upon_enter];refine key.mono ?_
  rintro e w' ⟨u,rfl,hu⟩
  exact hu
 ·exact key.elim
end
def isC (md:List Nat) (i:Nat):MOp→Bool
 | .alloc _ _=>true
 | .box _ _=>md.contains i
 | .build _ _ _=>false
 | .buildS _ _ _ _ _=>md.contains i
 | .store _ _ _=>false
 | .sl _ _ _ _ _=>false
 | .slA _ _ _ _ _ _=>false
 | .mkS _ _ _ _ _ _=>md.contains i
 | .app _ _ _ _ _=>md.contains i
 | .bytes _=>false
 | .copy _ _ _ _=>false
 | .appz _ _ _ _ _ _=>false
 | .mkM _=>false
 | .ins _ _ _ _=>false
 | .lk _ _ _=>false
section
variable (E:List RO→Nat→AS→List Lg→Nat→Prop)
def dWP (r:V×Prop) (fp:List Nat) (d:Option Nat) (l:List RO) (i:Nat) (σ:AS) (lg:List Lg) (nx:Nat):Prop:=r.2∧E l (i+1) (σ.put d r.1) (jQ i fp none lg) nx
def dWW (r:V×AS×Prop) (fp:List Nat) (tg:Option Nat) (d:Option Nat) (l:List RO) (i:Nat) (σ:AS) (lg:List Lg) (nx:Nat):Prop:=r.2.2∧E l (i+1) ((⟨σ.n,σ.t,r.2.1.ob⟩:AS).put d r.1) (jQ i fp tg lg) nx
def dWC (r:V×Ob×Prop) (fp:List Nat) (d:Option Nat) (l:List RO) (i:Nat) (σ:AS) (lg:List Lg) (nx:Nat):Prop:=σ.ob[nx]?=some kP∧r.2.2∧E l (i+1) ((⟨σ.n,σ.t,σ.ob.set nx r.2.1⟩:AS).put d r.1) (jQ i (nx::fp) (some nx) lg) (nx+1)
def dWM (w c:Bool) (m:MOp) (d:Option Nat) (l:List RO) (i:Nat) (σ:AS) (lg:List Lg) (nx:Nat):Prop:=match w,c with
 |true,_=>dWW E (dV σ m) (lL σ m) (xW σ m) d l i σ lg nx
 |false,true=>dWC E (oW σ nx m) (lL σ m) d l i σ lg nx
 |false,false=>dWP E (qY σ m) (lL σ m) d l i σ lg nx
def dWG (md:List Nat) (w:Option Bool) (o:RK) (d:Option Nat) (l:List RO) (i:Nat) (σ:AS) (lg:List Lg) (nx:Nat):Prop:=ifW w (match o with
  | .p m=>dWP E (iF σ m) (fpP σ m) d l i σ lg nx
  | .m m=>dWM E (isW σ m) (isC md i m) m d l i σ lg nx
  | .call _ _=>False
  | .callv _ _=>False) (E l (i+1) (σ.put d (.tup [])) lg nx)
end
def lJ (C:List RO→Nat→AS→List Lg→Nat→Prop) (md:List Nat):List Unit→List RO→Nat→AS→List Lg→Nat→Prop
 |[],l,i,σ,lg,nx=>C l i σ lg nx
 |_::_,[],i,σ,lg,nx=>C [] i σ lg nx
 |_::fu,⟨d,gd,.p m⟩::l,i,σ,lg,nx=>ifW (bQ σ gd) ((iF σ m).2∧lJ C md fu l (i+1) (σ.put d (iF σ m).1) (jQ i (fpP σ m) none lg) nx) (lJ C md fu l (i+1) (σ.put d (.tup [])) lg nx)
 |_::fu,⟨d,gd,.m m⟩::l,i,σ,lg,nx=>ifW (bQ σ gd) (match isW σ m,isC md i m with
   |true,_=>(dV σ m).2.2∧lJ C md fu l (i+1) ((⟨σ.n,σ.t,(dV σ m).2.1.ob⟩:AS).put d (dV σ m).1) (jQ i (lL σ m) (xW σ m) lg) nx
   |false,true=>σ.ob[nx]?=some kP∧(oW σ nx m).2.2∧lJ C md fu l (i+1) ((⟨σ.n,σ.t,σ.ob.set nx (oW σ nx m).2.1⟩:AS).put d (oW σ nx m).1) (jQ i (nx::lL σ m) (some nx) lg) (nx+1)
   |false,false=>(qY σ m).2∧lJ C md fu l (i+1) (σ.put d (qY σ m).1) (jQ i (lL σ m) none lg) nx) (lJ C md fu l (i+1) (σ.put d (.tup [])) lg nx)
 |_::_,⟨d,gd,.call f xs⟩::l,i,σ,lg,nx=>C (⟨d,gd,.call f xs⟩::l) i σ lg nx
 |_::_,⟨d,gd,.callv x xs⟩::l,i,σ,lg,nx=>C (⟨d,gd,.callv x xs⟩::l) i σ lg nx
theorem kD {P:Program} {cx:Cx} {N:Nat} {Q:Exit→Act→World→Prop} {k:List It} {t0:List (Nat×V)} {ob0:List Ob} {B:List (List Nat)} {md:List Nat}:∀{fu:List Unit} {l:List RO} {i:Nat} {σ:AS} {lg:List Lg} {nx:Nat},lJ (EvW P cx N Q k t0 ob0 B) md fu l i σ lg nx→EvW P cx N Q k t0 ob0 B l i σ lg nx
 |[],l,i,σ,lg,nx,h=>h
 |_::_,[],i,σ,lg,nx,h=>h
 |_::fu,⟨d,gd,.p m⟩::l,i,σ,lg,nx,h=>by
  rcases xl6 h with ⟨hw,h⟩|⟨hw,h⟩
  ·exact yl3 hw h.1 (kD h.2)
  ·exact xco hw (kD h)
 |_::fu,⟨d,gd,.m m⟩::l,i,σ,lg,nx,h=>by
  rcases xl6 h with ⟨hw,h⟩|⟨hw,h⟩
  ·cases hW:isW σ m with
   |true=>
    simp only [hW] at h;exact yl4 hw hW h.1 (kD h.2)
   |false=>
    cases hC:isC md i m with
    |true=>
     simp only [hW,hC] at h;exact ykw hw h.1 h.2.1 (kD h.2.2)
    |false=>
     simp only [hW,hC] at h;exact yl2 hw h.1 (kD h.2)
  ·exact xco hw (kD h)
 |_::_,⟨d,gd,.call f xs⟩::l,i,σ,lg,nx,h=>h
 |_::_,⟨d,gd,.callv x xs⟩::l,i,σ,lg,nx,h=>h
theorem xpf {P:Program} {cx:Cx} {N:Nat} {Q:Exit→Act→World→Prop} {k:List It} {t0:List (Nat×V)} {ob0:List Ob} {B:List (List Nat)} {d:Option Nat} {gd:Option (Nat×Bool)} {m:POp} {l:List RO} {i nx:Nat} {σ:AS} {lg:List Lg} (h:lJ (EvW P cx N Q k t0 ob0 B) [] [(),(),(),(),(),(),(),()] (⟨d,gd,.p m⟩::l) i σ lg nx):EvW P cx N Q k t0 ob0 B (⟨d,gd,.p m⟩::l) i σ lg nx:=kD h
theorem xpe {P:Program} {cx:Cx} {N:Nat} {Q:Exit→Act→World→Prop} {k:List It} {t0:List (Nat×V)} {ob0:List Ob} {B:List (List Nat)} {d:Option Nat} {gd:Option (Nat×Bool)} {m:MOp} {l:List RO} {i nx:Nat} {σ:AS} {lg:List Lg} (h:lJ (EvW P cx N Q k t0 ob0 B) [] [(),(),(),(),(),(),(),()] (⟨d,gd,.m m⟩::l) i σ lg nx):EvW P cx N Q k t0 ob0 B (⟨d,gd,.m m⟩::l) i σ lg nx:=kD h
theorem xku {P:Program} {cx:Cx} {N:Nat} {Q:Exit→Act→World→Prop} {k:List It} {n:Nat} {t:List (Nat×V)}:∀(c:Nat) {ob:List Ob},Ev P cx N Q k ⟨n,t,ob++List.replicate c kP⟩→Ev P cx N Q k ⟨n,t,ob⟩
 |0,ob,h=>by simpa using h
 |c+1,ob,h=>by
  have h:=xku c (ob:=ob++[kP]) (by simpa [List.replicate_succ] using h);refine⟨fun hn E a w R=>?_⟩;obtain⟨L,R'⟩:=R.new (w':=w) (o:=kP) (u:=.slice none 0 0) (Below.refl _ _) (fun b hb=>by simp [aP] at hb) rfl rfl (by
   unfold OkO;exact⟨1,[],[],rfl,rfl,by simp [Unif],ω,by simp,World.ownsRow_nil _ _ _ _,by simp [RdL],fun b hb=>by simp [aP] at hb⟩)
  exact h.h hn _ a w R'
def nC:List RO→Nat
 |[]=>0
 |⟨_,_,.m (.alloc _ _)⟩::l=>nC l+1
 |_::l=>nC l
theorem xv9 {B:List (List Nat)}:∀{l:List RO} {i:Nat} {ds:List (Nat×Option Nat)},yF B l i ds=true→∀q,i≤q→q<i+l.length→∀j∈bk B q,j<q
 |[],i,ds,h,q,h1,h2=>by simp at h2;omega
 |r::l,i,ds,h,q,h1,h2=>by
  simp only [yF,Bool.and_eq_true] at h;by_cases e:q=i
  ·subst e
   intro j hj;simpa using List.all_eq_true.1 h.1 j hj
  ·exact xv9 h.2.2 q ω (by simp at h2;omega)
theorem iL {P:Program} {cx:Cx} {N:Nat} {Q:Exit→Act→World→Prop} {k:List It} {t0:List (Nat×V)} {ob0:List Ob} {B:List (List Nat)} {l:List RO} (hm:P.follows .mixedOrders=true) (md:List Nat) (c:Nat) (hn:nC l+md.length=c) (hd:yF B l 0 []=true)
  {fu:List Unit} (h:lJ (EvW P cx N Q k t0 (ob0++List.replicate c kP) B) md fu l 0 ⟨N,t0,ob0++List.replicate c kP⟩ [] ob0.length):Ev P cx N Q (.code (.dreg l B)::k) ⟨N,t0,ob0⟩:=by
 refine xku c (yki hm (fun i hi=>xv9 hd i (Nat.zero_le _) ω) ?_);obtain⟨pf,h1,h2,h3,h4⟩:=(kD h).h [] ⟨rfl,rfl,hd,List.Pairwise.nil,fun e he=>(by cases he),fun e he=>(by cases he)⟩;exact⟨pf,h1,h2,h3,h4⟩
section
variable (C:List RO→Nat→AS→List Lg→Nat→Prop) (md:List Nat) (d:Option Nat) (l:List RO) (i:Nat) (σ:AS) (lg:List Lg) (nx:Nat) (u:Unit) (fu:List Unit)
theorem ykc:lJ C md [] l i σ lg nx=C l i σ lg nx:=rfl
theorem yka:lJ C md (u::fu) [] i σ lg nx=C [] i σ lg nx:=rfl
theorem ykh (gd:Option (Nat×Bool)) (x:X) (xs:List X):lJ C md (u::fu) (⟨d,gd,.callv x xs⟩::l) i σ lg nx=C (⟨d,gd,.callv x xs⟩::l) i σ lg nx:=rfl
theorem ykb (gd:Option (Nat×Bool)) (f:FuncId) (xs:List X):lJ C md (u::fu) (⟨d,gd,.call f xs⟩::l) i σ lg nx=C (⟨d,gd,.call f xs⟩::l) i σ lg nx:=rfl
theorem ykg (m:POp):lJ C md (u::fu) (⟨d,none,.p m⟩::l) i σ lg nx=dWP (lJ C md fu) (iF σ m) (fpP σ m) d l i σ lg nx:=rfl
theorem ykf (m:MOp):lJ C md (u::fu) (⟨d,none,.m m⟩::l) i σ lg nx=dWM (lJ C md fu) (isW σ m) (isC md i m) m d l i σ lg nx:=rfl
theorem yke (g:Nat×Bool) (m:POp):lJ C md (u::fu) (⟨d,some g,.p m⟩::l) i σ lg nx=dWG (lJ C md fu) md (bQ σ (some g)) (.p m) d l i σ lg nx:=rfl
theorem ykd (g:Nat×Bool) (m:MOp):lJ C md (u::fu) (⟨d,some g,.m m⟩::l) i σ lg nx=dWG (lJ C md fu) md (bQ σ (some g)) (.m m) d l i σ lg nx:=rfl
end
section
variable (E:List RO→Nat→AS→List Lg→Nat→Prop) (md:List Nat) (l:List RO) (i s n:Nat) (t:List (Nat×V)) (ob:List Ob) (lg:List Lg) (nx:Nat) (fp:List Nat) (x:V) (c:Prop)
theorem yid (o:RK) (d:Option Nat) (σ:AS):dWG E md (some false) o d l i σ lg nx=E l (i+1) (σ.put d (.tup [])) lg nx:=rfl
theorem yif (m:POp) (d:Option Nat) (σ:AS):dWG E md (some true) (.p m) d l i σ lg nx=dWP E (iF σ m) (fpP σ m) d l i σ lg nx:=rfl
theorem yie (m:MOp) (d:Option Nat) (σ:AS):dWG E md (some true) (.m m) d l i σ lg nx=dWM E (isW σ m) (isC md i m) m d l i σ lg nx:=rfl
theorem yii (cc:Bool) (m:MOp) (d:Option Nat) (σ:AS):dWM E true cc m d l i σ lg nx=dWW E (dV σ m) (lL σ m) (xW σ m) d l i σ lg nx:=rfl
theorem yig (m:MOp) (d:Option Nat) (σ:AS):dWM E false true m d l i σ lg nx=dWC E (oW σ nx m) (lL σ m) d l i σ lg nx:=rfl
theorem yih (m:MOp) (d:Option Nat) (σ:AS):dWM E false false m d l i σ lg nx=dWP E (qY σ m) (lL σ m) d l i σ lg nx:=rfl
theorem yij:dWP E (x,c) fp (some s) l i ⟨n,t,ob⟩ lg nx=(c∧E l (i+1) ⟨n,(s,x)::t,ob⟩ (jQ i fp none lg) nx):=rfl
theorem yil (n':Nat) (t':List (Nat×V)) (ob':List Ob) (tg:Option Nat):dWW E (x,⟨n',t',ob'⟩,c) fp tg (some s) l i ⟨n,t,ob⟩ lg nx=(c∧E l (i+1) ⟨n,(s,x)::t,ob'⟩ (jQ i fp tg lg) nx):=rfl
theorem yik (n':Nat) (t':List (Nat×V)) (ob':List Ob) (tg:Option Nat):dWW E (x,⟨n',t',ob'⟩,c) fp tg none l i ⟨n,t,ob⟩ lg nx=(c∧E l (i+1) ⟨n,t,ob'⟩ (jQ i fp tg lg) nx):=rfl
theorem yic (o:Ob):dWC E (x,o,c) fp (some s) l i ⟨n,t,ob⟩ lg nx=(ob[nx]?=some kP∧c∧E l (i+1) ⟨n,(s,x)::t,ob.set nx o⟩ (jQ i (nx::fp) (some nx) lg) (nx+1)):=rfl
theorem yn7 (wr:Option Nat):jQ i [] wr lg=lg:=rfl
theorem yn8 (a:Nat) (wr:Option Nat):jQ i (a::fp) wr lg=(i,a::fp,wr)::lg:=rfl
end
end Rdn.Dp
namespace Rdn
open Go
structure Cell where
 tag:Int
 val:Int
 deriving DecidableEq
structure Canon where
 tag:Int
 val:Int
 region:Int
 offset:Int
 deriving DecidableEq
structure View where
 state:Int
 pc:Int
 count:Int
 handler:Int
 saved:Int
 trap:Int
 code:Int
 regs:List Canon
 deriving DecidableEq
structure Output where
 seq:Int
 socket:Int
 data:List Canon
 deriving DecidableEq
structure Opn where
 file:Int
 offset:Int
 write:Bool
 deriving DecidableEq
structure Files where
 data:List (List Canon)
 opens:List Opn
 deriving DecidableEq
structure State where
 regions:List (List Canon)
 threads:List View
 deriving DecidableEq
structure PageID where
 region:Int
 index:Int
 deriving DecidableEq
structure Page where
 id:PageID
 cells:List Canon
 view:View
 deriving DecidableEq
structure Outside where
 clock:List Int
 random:List Int
 inputs:List (List Int)
 files:Files
 outputs:List Output
 deriving DecidableEq
structure Request where
 thread:Int
 stop:Int
 trap:Int
 count:Int
 pc:Int
 call:Int
 args:List Canon
 data:List Canon
 deriving DecidableEq
structure Result where
 value:Canon
 data:List Canon
 spawn:Int
 wait:Bool
 deriving DecidableEq
end Rdn
namespace Rdn.Dp
open Go Go.RowKit Rdn
mutual
def V.wf:V→Prop
 | .int k n=>jE k n
 | .agg l=>V.wfs l
 | .arr _ l=>V.wfs l
 | .sl _ _ l=>V.wfs l∧l.length≤140737488355328
 | .tup _=>True
 | .clo _ _=>True
 | .bool _=>True
 | .str _=>True
 | .nilS=>True
 | .own _ _=>True
 | .ptr _ _ _ _=>True
 | .osl _ _ _ _ _=>True
 | .rp _=>True
 | .fn _=>True
 | .lit _=>True
 | .junk=>True
def V.wfs:List V→Prop
 |[]=>True
 |x::l=>x.wf∧V.wfs l
end
theorem yfi:∀{l:List V},V.wfs l↔∀x∈l,x.wf
 |[]=>by simp [V.wfs]
 |x::l=>by simp [V.wfs,yfi (l:=l)]
theorem lW {α:Type} (f:α→V) (l:List α):V.wfs (l.map f)↔∀a∈l,(f a).wf:=by simp [yfi]
section
variable {E:Env} {w:World}
mutual
theorem RdV.wf:∀{x:V} {cs:List Value},RdV E w x cs→x.wf
 | .int k n,cs,h=>by simp only [RdV] at h;simp only [V.wf];exact h.2
 | .agg l,cs,h=>by simp only [RdV] at h;simp only [V.wf];exact h.wfs
 | .arr s l,cs,h=>by simp only [RdV] at h;simp only [V.wf];exact h.1.wfs
 | .sl t s l,cs,h=>by
  simp only [RdV] at h;simp only [V.wf];obtain⟨_,_,A,c,_,_,hm,hh⟩:=h;refine⟨?_,hm⟩;cases l with
  |nil=>simp [V.wfs]
  |cons a l=>
   obtain⟨b,o,xs,_,_,_,hr,_⟩:=hh ξ;exact hr.wfs
 | .tup _,cs,h=>by simp only [V.wf]
 | .clo f _,cs,h=>by simp only [V.wf]
 | .bool _,cs,h=>by simp only [V.wf]
 | .str _,cs,h=>by simp only [V.wf]
 | .nilS,cs,h=>by simp only [V.wf]
 | .own _ _,cs,h=>by simp only [V.wf]
 | .ptr _ _ _ _,cs,h=>by simp only [V.wf]
 | .osl _ _ _ _ _,cs,h=>by simp only [V.wf]
 | .rp _,cs,h=>by simp only [V.wf]
 | .fn _,cs,h=>by simp only [V.wf]
 | .lit _,cs,h=>by simp only [V.wf]
 | .junk,cs,h=>by simp only [V.wf]
theorem RdL.wfs:∀{l:List V} {cs:List Value},RdL E w l cs→V.wfs l
 |[],cs,h=>by simp only [V.wfs]
 |a::l,cs,h=>by
  simp only [RdL] at h;obtain⟨c,ys,rfl,h1,h2⟩:=h;simp only [V.wfs];exact⟨h1.wf,h2.wfs⟩
end
theorem RdT.wf:∀{x:V} {v:Value},RdT E w x v→x.wf
 | .int k n,v,h=>by simp only [RdT] at h;exact h.wf
 | .agg l,v,h=>by simp only [RdT] at h;obtain⟨cs,_,h⟩:=h;exact h.wf
 | .arr s l,v,h=>by simp only [RdT] at h;obtain⟨cs,_,h⟩:=h;exact h.wf
 | .sl t s l,v,h=>by simp only [RdT] at h;exact h.wf
 | .tup _,v,h=>by simp only [V.wf]
 | .clo f _,v,h=>by simp only [V.wf]
 | .bool _,v,h=>by simp only [V.wf]
 | .str _,v,h=>by simp only [V.wf]
 | .nilS,v,h=>by simp only [V.wf]
 | .own _ _,v,h=>by simp only [V.wf]
 | .ptr _ _ _ _,v,h=>by simp only [V.wf]
 | .osl _ _ _ _ _,v,h=>by simp only [V.wf]
 | .rp _,v,h=>by simp only [V.wf]
 | .fn _,v,h=>by simp only [V.wf]
 | .lit _,v,h=>by simp only [V.wf]
 | .junk,v,h=>by simp only [V.wf]
theorem RdTs.wfs:∀{l:List V} {vs:List Value},RdTs E w l vs→V.wfs l
 |[],vs,h=>by simp only [V.wfs]
 |a::l,vs,h=>by
  simp only [RdTs] at h;obtain⟨v,ys,rfl,h1,h2⟩:=h;simp only [V.wfs];exact⟨h1.wf,h2.wfs⟩
end
theorem Fnc.wf {P:Program} {f:FuncId} {xs:List V} {R0:V→List Ob→Prop} (h:V.wfs xs→Fnc P f xs R0):Fnc P f xs R0:=fun w S vs hS hvs=>h hvs.wfs w S vs hS hvs
theorem xpx {n:Int} (h:jE .u8 n):0≤n∧n≤255:=by unfold jE at h;simpa [IntKind.min,IntKind.max,IntKind.signed,IntKind.bits] using h
theorem xbu {n:Int} (h:jE .u16 n):0≤n∧n≤65535:=by unfold jE at h;simpa [IntKind.min,IntKind.max,IntKind.signed,IntKind.bits] using h
theorem xx6 {n:Int} (h:jE .u32 n):0≤n∧n≤4294967295:=by unfold jE at h;simpa [IntKind.min,IntKind.max,IntKind.signed,IntKind.bits] using h
theorem xpw {n:Int} (h:jE .i64 n):-9223372036854775808≤n∧n≤9223372036854775807:=by unfold jE at h;simpa [IntKind.min,IntKind.max,IntKind.signed,IntKind.bits] using h
theorem yve {P:Program} {cx:Cx} {N:Nat} {Q:Exit→Act→World→Prop} {k:List It} {n:Nat} {t:List (Nat×V)} {ob:List Ob} {l:List RO} {gd:Option (Nat×Bool)} {i:Nat} {f:FuncId} {xs:List X} (ys:List V) (x:V) {ws:List V} (hF:Fnc P f ys fun y obs=>y=x∧obs=[]) (hw:bQ ⟨n,t,ob⟩ gd=some true)
  (hx:xs.map (X.ev ⟨n,t,ob⟩)=ws) (hok:V.ressOk ⟨n,t,ob⟩ ws∧pK ws) (hs:Subs (V.lows (V.ress ⟨n,t,ob⟩ [] ws)) ys) (hp:V.pureT x=true) (hq:yS ws x []) (h:EvR P cx N Q k l ⟨n,(i,x)::t,ob⟩):EvR P cx N Q k (⟨some i,gd,.call f xs⟩::l) ⟨n,t,ob⟩:=by
 refine ye9 ys hF hw hx hok hs (fun y obs hy=>by obtain⟨rfl,rfl⟩:=hy;exact hq) fun y obs hy=>?_;obtain⟨rfl,rfl⟩:=hy;rw [V.shift_pureT _ _ hp,List.map_nil,List.append_nil];exact h
theorem yvf {P:Program} {cx:Cx} {N:Nat} {Q:Exit→Act→World→Prop} {k:List It} {n:Nat} {t:List (Nat×V)} {ob:List Ob} {l:List RO} {gd:Option (Nat×Bool)} {i:Nat} {f:FuncId} {xs:List X} {r g:Nat} {ws ys:List V} {q:Bool} {T:TypeId} {dc d d' x:V} (hF:FncM P f T d ys fun y obs c=>y=x∧obs=[]∧c=d') (hw:bQ ⟨n,t,ob⟩ gd=some true)
  (hx:xs.map (X.ev ⟨n,t,ob⟩)=.ptr r g [] 0::ws) (hob:ob[r]?=some ⟨.box q T,true,g,dc⟩) (hdp:dc.pure=true) (hd:dc.low=d) (hwp:V.pures ws=true) (hys:V.lows ws=ys) (hp:V.pureT x=true)
  (h:EvR P cx N Q k l ⟨n,(i,x)::t,ob.set r ⟨.box q T,true,g,d'⟩⟩):EvR P cx N Q k (⟨some i,gd,.call f xs⟩::l) ⟨n,t,ob⟩:=by
 refine xfr hF hw hx hob hdp hd hwp hys fun y obs c hy=>?_;obtain⟨rfl,rfl,rfl⟩:=hy;rw [V.shift_pureT _ _ hp,List.map_nil,List.append_nil];exact h
instance :Inhabited Cell:=⟨⟨0,0⟩⟩
instance :Inhabited Canon:=⟨⟨0,0,0,0⟩⟩
instance :Inhabited View:=⟨⟨0,0,0,0,0,0,0,[]⟩⟩
instance :Inhabited Output:=⟨⟨0,0,[]⟩⟩
abbrev nO (l:List Int):List V:=l.map (V.int .u8)
abbrev xjx (l:List Int):List V:=l.map (V.int .u16)
abbrev xhl (l:List Int):List V:=l.map (V.int .u32)
abbrev bH (l:List Int):List V:=l.map (V.int .i64)
abbrev bC (c:Cell):V:=.agg [.int .u8 c.tag,.int .u16 c.val]
abbrev aS (c:Canon):V:=.agg [.int .u8 c.tag,.int .u16 c.val,.int .i64 c.region,.int .i64 c.offset]
abbrev oG (t:Bool) (v:View):V:=.agg [.int .i64 v.state,.int .i64 v.pc,.int .i64 v.count,.int .i64 v.handler,.int .i64 v.saved,.int .i64 v.trap,.int .u16 v.code,.sl t 4 (v.regs.map aS)]
abbrev wL (t:Bool) (o:Output):V:=.agg [.int .i64 o.seq,.int .i64 o.socket,.sl t 4 (o.data.map aS)]
theorem xjk {α:Type} (t:Bool) (s:Nat) (f:α→List V) (l:List α):V.pures (l.map fun x=>V.sl t s (f x))=true:=xry _ _ (fun _=>rfl)
theorem ylq (k:IntKind) (l:List Int):V.freshs (l.map (V.int k))=true:=xcq _ _ (fun _=>rfl)
theorem ylo (l:List Cell):V.freshs (l.map bC)=true:=xcq _ _ (fun _=>rfl)
theorem xwr (l:List Canon):V.freshs (l.map aS)=true:=xcq _ _ (fun _=>rfl)
theorem xrp {σ:AS} {r e g s:Nat} {l:List V} (h:σ.ob[r]?=some ⟨.row e,true,g,.arr s l⟩):vP σ [r]:=⟨by simp,fun q hq=>by simp at hq;subst hq;exact⟨e,g,s,l,h⟩⟩
theorem yng (l m:List V):V.lows (l++m)=V.lows l++V.lows m:=by
 induction l with
 |nil=>simp [V.lows]
 |cons x l ih=>simp [V.lows,ih]
theorem yfv (l:List Int):(l.map (V.int .u8)).all xgm=true:=by simp [xgm]
theorem fJ {α:Type} (l:List α) {n:Nat} (h:l.length≤n):l.take n=l:=List.take_of_length_le h
end Rdn.Dp
namespace Rdn.Dp
open Go Go.RowKit Rdn
section
variable {P:Program} {cx:Cx} {N:Nat} {Q:Exit→Act→World→Prop} {k:List It} {n:Nat} {t:List (Nat×V)} {ob:List Ob}
theorem rZ {b:Bool} (h:b=false):(!b)=true:=by rw [h];rfl
theorem rY {b:Bool} (h:b=true):(!b)=false:=by rw [h];rfl
theorem dR {σ:AS} {x:X} {y z:MC} {b:Bool} (hx:x.ev σ=.bool b) (hb:b=true) (h:Ev P cx N Q (.code y::k) σ):Ev P cx N Q (.code (.cond x y z)::k) σ:=zX (hx.trans (by rw [hb])) h
theorem dZ {σ:AS} {x:X} {y z:MC} {b:Bool} (hx:x.ev σ=.bool b) (hb:b=false) (h:Ev P cx N Q (.code z::k) σ):Ev P cx N Q (.code (.cond x y z)::k) σ:=zW (hx.trans (by rw [hb])) h
def Eqs (t:List (Nat×V)):List (Nat×V)→Prop
 |[]=>True
 |(j,x)::l=>aV t j=x∧Eqs t l
theorem Eqs.all {t:List (Nat×V)}:∀{l:List (Nat×V)},Eqs t l→∀p∈l,aV t p.1=p.2
 |(j,x)::l,h,p,hp=>by
  rcases List.mem_cons.1 hp with rfl|hp
  ·exact h.1
  ·exact h.2.all p hp
theorem Eqs.app {t:List (Nat×V)}:∀{l m:List (Nat×V)},Eqs t l→Eqs t m→Eqs t (l++m)
 |[],m,_,k=>k
 |(j,x)::l,m,h,k=>⟨h.1,h.2.app k⟩
theorem Eqs.look {t l:List (Nat×V)} (h:Eqs t l):∀p∈l,aV t p.1=aV l p.1:=by
 have key:∀(m:List (Nat×V)),(∀p∈m,aV t p.1=p.2)→∀p∈m,aV t p.1=aV m p.1:=by
  intro m
  induction m with
  |nil=>intro _ p hp;cases hp
  |cons q m ih=>
   obtain⟨j,x⟩:=q;intro hm p hp;simp only [aV];split
   ·rename_i e
    rw [←e];exact hm (j,x) ξ
   ·rename_i e
    rcases List.mem_cons.1 hp with rfl|hp
    ·exact absurd rfl e
    ·exact ih (fun p hp=>hm p (by simp [hp])) p hp
 exact key l h.all
def oU (m:Nat):List (Nat×V)→Bool
 |[]=>true
 |(_,x)::l=>x.scp m && oU m l
theorem ydi {m:Nat}:∀{l:List (Nat×V)},oU m l=true→∀p∈l,p.2.scp m=true
 |(_,x)::l,h,p,hp=>by
  simp only [oU,Bool.and_eq_true] at h;rcases List.mem_cons.1 hp with rfl|hp
  ·exact h.1
  ·exact ydi h.2 p hp
def sK (m:Nat):List Ob→Bool
 |[]=>true
 |o::l=>o.scp m && sK m l
theorem xnb {m:Nat}:∀{l:List Ob},sK m l=true→∀o∈l,o.scp m=true
 |o'::l,h,o,ho=>by
  simp only [sK,Bool.and_eq_true] at h;rcases List.mem_cons.1 ho with rfl|ho
  ·exact h.1
  ·exact xnb h.2 o ho
def xf2 (t:List (Nat×V)):List Nat→List (Nat×V)
 |[]=>[]
 |j::l=>(j,aV t j)::xf2 t l
theorem xxc {t:List (Nat×V)}:∀{l:List Nat},Eqs t (xf2 t l)
 |[]=>trivial
 |j::l=>⟨rfl,xxc⟩
theorem xw9 {t':List (Nat×V)} {ob':List Ob} (m:Nat) (he:Eqs t t') (ho:ob.take m=ob') (hm:m≤ob.length) (hs:oU m t'=true) (hs':sK m ob'=true) (h:Ev P cx N Q k ⟨n,t',ob'⟩):Ev P cx N Q k ⟨n,t,ob⟩:=
 yvi t' m ho hm he.look (ydi hs) (xnb hs') h
theorem gY {ι:Type} (ks:List Nat) (U:ι→List (Nat×V)) (O:ι→List Ob) (μ:ι→Nat) (i0:ι) (m:Nat) {tk:List (Nat×V)} {x:MC} (htk:xf2 t ks=tk)
  (hU:Eqs t (U i0)) (hO:ob.take m=O i0) (hm:m≤ob.length) (hs:oU m (U i0)=true) (hs2:oU m tk=true) (hs3:sK m (O i0)=true)
  (round:∀J:ι→AS→Prop,(∀i i',μ i'<μ i→J i ⟨n,U i'++tk,O i'⟩)→∀i,Ev P cx N Q (.code x::.goal (J i)::k) ⟨n,U i++tk,O i⟩):Ev P cx N Q (.code (.loop x)::k) ⟨n,t,ob⟩:=by
 subst htk;have hsc:∀l1 l2:List (Nat×V),oU m l1=true→oU m l2=true→oU m (l1++l2)=true:=by
  intro l1
  induction l1 with
  |nil=>intro l2 _ h;exact h
  |cons p l1 ih=>
   intro l2 h1 h2;simp only [oU,Bool.and_eq_true] at h1;show(p.2.scp m && oU m (l1++l2))=true;rw [h1.1,ih l2 h1.2 h2];rfl
 exact ykk (fun i=>⟨n,U i++xf2 t ks,O i⟩) μ i0 (xw9 m (hU.app xxc) hO hm (hsc _ _ hs hs2) hs3 (xw8 rfl)) (round (fun i σ'=>∃i',σ'=⟨n,U i'++xf2 t ks,O i'⟩∧μ i'<μ i) (fun i i' h=>⟨i',rfl,h⟩))
theorem lI {J:AS→Prop} {n':Nat} {t':List (Nat×V)} {ob':List Ob} (m:Nat) (h:J ⟨n',t',ob'⟩) (hn:n=n') (hm:m≤ob.length) (hO:ob.take m=ob') (hs:oU m t'=true) (hs3:sK m ob'=true) (he:Eqs t t'):
  Ev P cx N Q (.goal J::k) ⟨n,t,ob⟩:=by
 subst hn;exact xw9 m he hO hm hs hs3 (xw8 h)
end
class Lo {α:Type} (f:α→V) (g:outParam (α→V)):Prop where
 pure:∀a,(f a).pure=true
 low:∀a,(f a).low=g a
theorem bV {α:Type} (f:α→V) {g:α→V} [h:Lo f g] (l:List α):V.pures (l.map f)=true:=xry _ _ h.pure
theorem uC {α:Type} (f:α→V) {g:α→V} [h:Lo f g] (l:List α):V.lows (l.map f)=l.map g:=ynf _ _ _ h.low
instance (k:IntKind):Lo (V.int k) (V.int k):=⟨fun _=>rfl,fun _=>rfl⟩
instance :Lo V.bool V.bool:=⟨fun _=>rfl,fun _=>rfl⟩
instance :Lo bC bC:=⟨fun _=>rfl,fun _=>rfl⟩
instance :Lo aS aS:=⟨fun _=>rfl,fun _=>rfl⟩
abbrev bD {α:Type} (t:Bool) (s:Nat) (f:α→V) (l:List α):V:=.sl t s (l.map f)
instance {α:Type} (t:Bool) (s:Nat) (f g:α→V) [h:Lo f g]:Lo (bD t s f) (bD false s g):=⟨fun _=>rfl,fun l=>by simp only [bD,V.low,uC]⟩
instance (t:Bool):Lo (wL t) (wL false):=⟨fun _=>rfl,fun o=>by simp only [wL,V.low,V.lows,uC]⟩
instance (t:Bool):Lo (oG t) (oG false):=⟨fun _=>rfl,fun o=>by simp only [oG,V.low,V.lows,uC]⟩
theorem yon {α β:Type} (f:α→β) (l m:List α):l.map f++m.map f=(l++m).map f:=(List.map_append).symm
theorem yv4 (k:IntKind) (l:List Int) (a:Int) (r:List V):l.map (V.int k)++(V.int k a::r)=(l++[a]).map (V.int k)++r:=by simp
theorem yv1 (l:List Bool) (a:Bool) (r:List V):l.map V.bool++(V.bool a::r)=(l++[a]).map V.bool++r:=by simp
theorem yv3 (l:List Cell) (t v:Int) (r:List V):l.map bC++(V.agg [.int .u8 t,.int .u16 v]::r)=(l++[(⟨t,v⟩:Cell)]).map bC++r:=by simp
theorem yv2 (l:List Canon) (t v x y:Int) (r:List V):l.map aS++(V.agg [.int .u8 t,.int .u16 v,.int .i64 x,.int .i64 y]::r)=(l++[(⟨t,v,x,y⟩:Canon)]).map aS++r:=by simp
theorem yv6 (t:Bool) (l:List Output) (a b:Int) (d:List Canon) (r:List V):l.map (wL t)++(V.agg [.int .i64 a,.int .i64 b,.sl t 4 (d.map aS)]::r)=(l++[(⟨a,b,d⟩:Output)]).map (wL t)++r:=by simp
theorem yv7 {α:Type} (t:Bool) (s:Nat) (f:α→V) (l:List (List α)) (d:List α) (r:List V):l.map (bD t s f)++(V.sl t s (d.map f)::r)=(l++[d]).map (bD t s f)++r:=by simp
attribute [go_sem_proc] Nat.reduceBEq Nat.reduceAdd Nat.reduceMul Nat.reduceSub Nat.reduceLT Nat.reduceEqDiff reduceCtorEq Nat.reduceLeDiff Int.reduceToNat Int.reducePow Int.reduceMod Int.reduceAdd Int.reduceSub Int.reduceMul Int.reduceDiv Int.reduceNeg Int.reduceLT Int.reduceLE Int.reduceEq
attribute [go_sem_proc ↓] reduceIte
attribute [go_sem] yk2 yk3 yk8 yk7 yk6 yk5 yj4 yj6 yj5 yj9 yj8 yj7 bQ AS.put iF dV X.ev aV xhs xo7 unV uT xh3 xgo oN gG bT eU xgd
attribute [go_sem] xie xgj xgi xim xgn xid mxV mnV xji xhi xft uU yka ykb ykg ykf yke ykd yid yif yie yii yig yih yij yil yik yic
attribute [go_sem] yn7 yn8 qY oW isW isC xW lL fpP kS xrx xmn xxa List.contains_nil List.contains_cons Bool.or_true Bool.true_or Bool.or_false
attribute [go_sem] Bool.false_or AS.upd Ob.freeze xbv eAt slV xfq aW jT mO xf9 kOf xci gB kG sS bad qZ beq_self_eq_true bTF bFT BEq.rfl Option.some.injEq
attribute [go_sem] List.getElem?_cons_zero List.getElem?_cons_succ List.getElem?_nil List.getD_cons_zero List.getD_cons_succ List.getD_nil List.length_cons
attribute [go_sem] List.length_nil List.length_map List.length_append List.length_replicate List.take_zero List.take_succ_cons List.take_nil List.drop_zero
attribute [go_sem] List.drop_succ_cons List.drop_nil List.length_take List.length_drop List.set_cons_zero List.set_cons_succ List.cons_append List.nil_append
attribute [go_sem] List.map_cons List.map_nil List.replicate_succ List.replicate_zero Nat.zero_add Nat.add_zero Nat.zero_mul Nat.one_mul Nat.mul_one V.size V.sizes
attribute [go_sem] V.isAgg V.pure V.pures bV uC xjk ylq ylo xwr yng
attribute [go_sem] yfv xmu Bool.and_true Bool.true_and Bool.and_self and_true true_and and_self or_true true_or or_false false_or ne_eq not_false_eq_true
attribute [go_sem] not_true_eq_false forall_const implies_true Nat.succ_ne_zero Option.isSome_none Option.isSome_some yp6 uD yp4 yp5 IntKind.bits
attribute [go_sem] IntKind.signed Int.toNat_natCast Int.toNat_zero Int.zero_add Int.ediv_one Int.add_zero Int.sub_zero decide_true decide_false Bool.not_true
attribute [go_sem] Bool.not_false
attribute [go_sem] V.fresh V.freshs V.low V.lows Ob.low V.res V.ress bT V.resOk V.ressOk pK V.scp V.scps Ob.scp oU sK xf2 Eqs nK xan yX List.idxOf?_nil V.idss V.ids
attribute [go_sem] ykc yk4
attribute [go_sem] yj2 yj3 yxm qN xof xaq xka AS.calm AS.frz
attribute [go_sem] yon yv4 yv1 yv3 yv2 yv6 yv7 List.append_nil List.tail_cons
attribute [go_sem] imp_self V.pureT xi5 vH xio xf1 xa6 xgm xhi xbm
end Rdn.Dp
namespace Go.Proofs.YthmjocibdepahaaGreat
open Go Go.RowKit Rdn Rdn.Dp
theorem aT:Tryz.prog.follows .mixedOrders=true:=by kernel_rfl
end Go.Proofs.YthmjocibdepahaaGreat
namespace Rdn.Dp
open Go Go.RowKit Rdn
def Enc {α:Type} (r:Sh α) (e:α→V):Prop:=∀W a cs,r.rd (old W) W a cs→RdV (lQ W) W (e a) cs
theorem Enc.int (k:IntKind):Enc (Sh.int k) (V.int k):=fun W a cs h=>by simp only [RdV];exact h
theorem Enc.slice {α:Type} {r:Sh α} {e:α→V} (h:Enc r e) (hp:∀a,(e a).pure=true) (hs:∀a,(e a).size=r.size):Enc (Sh.slice r) (fun l=> .sl false r.size (l.map e)):=by
 rintro W l cs ⟨v,rfl,A,c,rfl,hc,hm,hn⟩
 simp only [RdV];refine⟨xry _ _ hp,fun x hx=>?_,A,c,by simp,by simpa using hc,by simpa using hm,fun h0=>?_⟩
 ·obtain⟨a,_,rfl⟩:=List.mem_map.1 hx
  exact hs a
 ·have h0:0<l.length:=by simpa using h0
  obtain⟨b,o,hA,hb,hlt,hi⟩:=hn h0;have key:∀(m:List α) (o:Nat),(∀i (h:i<m.length),∃cs,r.rd (old W) W m[i] cs∧At W b (o+i*r.size) cs)→∃xs,RdL (lQ W) W (m.map e) xs∧At W b o xs:=by
   intro m
   induction m with
   |nil=>intro o _;exact⟨[],by simp [RdL],fun j v hv=>by simp at hv⟩
   |cons a m ih=>
    intro o hi;obtain⟨cs,k1,k2⟩:=hi 0 ξ;obtain⟨xs,k3,k4⟩:=ih (o+r.size) (fun i h=>by
     obtain⟨ds,q1,q2⟩:=hi (i+1) (by simpa using h);refine⟨ds,by simpa using q1,?_⟩;have:o+(i+1)*r.size=o+r.size+i*r.size:=by rw [Nat.add_mul];omega
     rwa [this] at q2)
    have hl:=r.len k1;refine⟨cs++xs,by simp only [List.map_cons,RdL];exact⟨cs,xs,rfl,h W _ _ (by simpa using k1),k3⟩,fun j v hv=>?_⟩;rw [List.getElem?_append] at hv;split at hv
    ·have:=k2 j v hv
     simpa using this
    ·rename_i hj
     have:=k4 (j-cs.length) v hv;rw [hl] at this hj
     rwa [show o+r.size+(j-r.size)=o+j by omega] at this
  obtain⟨xs,k1,k2⟩:=key l o hi;exact⟨b,o,xs,hA,hlt,fun h=>(by cases h),k1,k2⟩
theorem RdTs.nil' {W:World}:RdTs (lQ W) W [] []:=by simp only [RdTs]
theorem RdTs.slice {α:Type} {r:Sh α} {e:α→V} (he:Enc (Sh.slice r) (fun l=> .sl false r.size (l.map e))) {W:World} {a:List α} {v:Value} {l:List V} {vs:List Value} (h:(Sh.slice r).rd (old W) W a [v]) (hl:RdTs (lQ W) W l vs):RdTs (lQ W) W (.sl false r.size (a.map e)::l) (v::vs):=by
 simp only [RdTs];refine⟨v,vs,rfl,?_,hl⟩;simp only [RdT];exact he W _ _ h
theorem Fnc.law {P:Program} {f:FuncId} {xs:List V} (h:Fnc P f xs fun x obs=>x=.bool true) {W:World} {vs:List Value} (hv:RdTs (lQ W) W xs vs):Calls P f vs.toArray W fun e w'=>e=.returned (.bool true)∧Below W.heap.size W w':=by
 refine(h W (fun b=>b<W.heap.size) vs (fun _ h=>h) hv).mono ?_
 rintro e w' ⟨x,obs,v,rfl,rfl,E',hB,ho,R⟩
 have:=R.tm 0;simp only [aV,if_true] at this;have:=xca this;simp at this;subst this;exact⟨rfl,R.keep.os,R.keep.tape,R.keep.output,R.keep.size,fun k hk=>R.keep.block k hk (fun h=>h)⟩
theorem yjr:Enc (Sh.slice (Sh.int .i64)) (fun l=> .sl false (Sh.int .i64).size (l.map (V.int .i64))):=Enc.slice (Enc.int _) (fun _=>rfl) (fun _=>rfl)
end Rdn.Dp
namespace Rdn.Dp
open Go Go.RowKit Rdn
theorem xmh {n:Nat} {x:Int} (h0:0≤x) (h1:x<2 ^ n):(BitVec.ofInt n x).toNat=x.toNat:=by
 rw [BitVec.toNat_ofInt]
 congr 1
 exact Int.emod_eq_of_lt h0 (by exact_mod_cast h1)
theorem ygo {k:IntKind} (hk:k.signed=false) {x y:Int} (h0:0≤x) (h1:x<2 ^ k.bits) (h2:0≤y) (h3:y<2 ^ k.bits):zN k x y=((x.toNat ^^^ y.toNat:Nat):Int)∧x.toNat ^^^ y.toNat<2 ^ k.bits:=by
 have e:=Nat.xor_lt_two_pow (n:=k.bits) (x:=x.toNat) (y:=y.toNat) ((Int.toNat_lt h0).2 (by exact_mod_cast h1)) ((Int.toNat_lt h2).2 (by exact_mod_cast h3));refine⟨?_,e⟩;unfold zN IntKind.wrap;rw [BitVec.toNat_xor,xmh h0 h1,xmh h2 h3];simp only [hk,Bool.false_and,Bool.false_eq_true,if_false];exact Int.emod_eq_of_lt ω (by exact_mod_cast e)
theorem yh5 (c d:Cell):(c.tag==d.tag && c.val==d.val)=decide (c=d):=by
 obtain⟨a,b⟩:=c;obtain⟨a',b'⟩:=d;rw [Bool.eq_iff_iff];simp
theorem ygz (c d:Canon):(c.tag==d.tag && (c.val==d.val && (c.region==d.region && c.offset==d.offset)))=decide (c=d):=by
 obtain⟨a,b,x,y⟩:=c;obtain⟨a',b',x',y'⟩:=d;rw [Bool.eq_iff_iff];simp
attribute [go_sem] yh5 ygz
theorem xeu {α:Type} {a b:List α} {k:Nat} (ha:a.length≤k) (hb:b.length≤k) (h:a.take k=b.take k):a=b:=by
 rwa [List.take_of_length_le ha,List.take_of_length_le hb] at h
theorem xem {α:Type} [Inhabited α] {a b:List α} (h:a=b) (k:Nat):a[k]! =b[k]!:=by rw [h]
theorem ResOkM.low {w w':World} {S:Nat→Prop} {b0:Nat} {T:TypeId} {x d:V} {obs:List Ob} {v:Value} (h:ResOkM w w' S b0 T x obs d v):ResOkM w w' S b0 T x.low (obs.map Ob.low) d.low v:=by
 obtain⟨E1,h1,hb,h2,R,hd,cs,hcs,hr⟩:=h;have ol:∀(r:Nat) (o':Ob),(obs.map Ob.low)[r]?=some o'→∃o:Ob,obs[r]?=some o∧o'=o.low:=by
  intro r o' h;rw [List.getElem?_map,Option.map_eq_some_iff] at h;obtain⟨o,h,rfl⟩:=h;exact⟨o,h,rfl⟩
 refine⟨E1,h1,hb,fun o ho=>?_,⟨R.df,R.n,fun i=>?_,by simp [R.len],fun r o hr=>?_,fun r r' o o' g g' u u' b k1 k2 k3 k4 k5 k6 k7 k8 k9=>?_,R.lt,R.fr,R.old,R.keep⟩,by rw [V.low_pure];exact hd,cs,hcs,xbw hr⟩
 ·obtain⟨o1,ho1,rfl⟩:=List.mem_map.1 ho
  exact h2 o1 ho1
 ·have:=R.tm i
  cases i with
  |zero=>
   simp only [aV,if_true] at this⊢;exact xle this
  |succ i=>
   have e:aV [(0,x.low)] (i+1)=.junk:=by simp [aV]
   show RdT _ _ (aV [(0,x.low)] (i+1)) _;rw [e];simp only [RdT]
 ·obtain⟨o1,h,rfl⟩:=ol r o hr
  obtain⟨u,k1,k2⟩:=R.ob r o1 h;refine⟨u,k1,?_⟩;unfold OkO at k2⊢;simp only [Ob.low];split at k2
  ·obtain⟨b,cs,m1,m2,m3,m4,m5⟩:=k2
   exact⟨b,cs,m1,m2,xbw m3,m4,by rw [V.low_pure];exact m5⟩
  ·obtain⟨s,l,xs,m1,m2,m3,m4,m5,m6,m7,m8⟩:=k2
   have hl:(V.lows l).length=l.length:=by simp [yO]
   exact⟨s,V.lows l,xs,by rw [m1];rfl,by rw [V.lows_pures];exact m2,zG m3,m4,ω,by rw [hl];exact m6,xbx m7,m8⟩
  ·obtain⟨m0,s,l,xs,m1,m3,m4,m5,m6,m7,m8⟩:=k2
   have hl:(V.lows l).length=l.length:=by simp [yO]
   exact⟨m0,s,V.lows l,xs,by rw [m1];rfl,zG m3,m4,ω,by rw [hl];exact m6,xbx m7,m8⟩
 ·obtain⟨o1,q1,rfl⟩:=ol r o k2
  obtain⟨o2,q2,rfl⟩:=ol r' o' k3;exact R.sep r r' o1 o2 g g' u u' b k1 q1 q2 k4 k5 k6 k7 k8 k9
theorem FncM.low {P:Program} {f:FuncId} {T:TypeId} {d:V} {xs:List V} {R0:V→List Ob→V→Prop} (h:FncM P f T d xs fun x obs c=>R0 x.low (obs.map Ob.low) c.low):FncM P f T d xs R0:=fun w S b0 hS cs hcs hd vs hvs=>(h w S b0 hS cs hcs hd vs hvs).mono (by
 rintro e w' ⟨x,obs,c,v,h1,h2,h3⟩
 exact⟨_,_,_,v,h1,h2,h3.low⟩)
theorem yul (l:List Cell) (i:Nat) (t v:Int):(l.map bC).set i (.agg [.int .u8 t,.int .u16 v])=(l.set i ⟨t,v⟩).map bC:=by rw [List.map_set]
theorem yuk (l:List Canon) (i:Nat) (t v x y:Int):(l.map aS).set i (.agg [.int .u8 t,.int .u16 v,.int .i64 x,.int .i64 y])=(l.set i ⟨t,v,x,y⟩).map aS:=by rw [List.map_set]
theorem yum (k:IntKind) (l:List Int) (i:Nat) (v:Int):(l.map (V.int k)).set i (.int k v)=(l.set i v).map (V.int k):=by rw [List.map_set]
attribute [go_sem] yul yuk yum
theorem ygn {x y:Int} (h0:0≤x) (h1:x<4611686018427387904) (h2:0≤y) (h3:y<4611686018427387904):zN .i64 x y=((x.toNat ^^^ y.toNat:Nat):Int)∧x.toNat ^^^ y.toNat<4611686018427387904:=by
 have e:=Nat.xor_lt_two_pow (n:=62) (x:=x.toNat) (y:=y.toNat) ω ω;refine⟨?_,ω⟩;have hw:∀m:Nat,m<4611686018427387904→IntKind.i64.wrap (m:Int)=m:=by
  intro m hm;show(if(true && decide ((m:Int) % 18446744073709551616≥9223372036854775808))=true then(m:Int) % 18446744073709551616-18446744073709551616 else(m:Int) % 18446744073709551616)=m;rw [Int.emod_eq_of_lt ω ω,if_neg (by simp;omega)]
 have e1:(BitVec.ofInt 64 x).toNat=x.toNat:=xmh h0 ω;have e2:(BitVec.ofInt 64 y).toNat=y.toNat:=xmh h2 ω;show IntKind.i64.wrap (((BitVec.ofInt 64 x ^^^ BitVec.ofInt 64 y).toNat:Nat):Int)=_;rw [BitVec.toNat_xor,e1,e2];exact hw _ ω
theorem tZ {P:Program} {cx:Cx} {N:Nat} {Q:Exit→Act→World→Prop} {k:List It} {n:Nat} {t:List (Nat×V)} {ob:List Ob} (i:Nat) (u:Bool) (s:Nat) (hi:aV t i=.nilS) (h:Ev P cx N Q k ⟨n,(i,.sl u s [])::t,ob⟩):Ev P cx N Q k ⟨n,t,ob⟩:=by
 refine⟨fun hn E a w R=>h.h hn E a w ⟨R.df,R.n,fun j=>?_,R.len,R.ob,R.sep,R.lt,R.fr,R.old,R.keep⟩⟩;simp only [aV];split
 ·rename_i e
  subst e;have:=R.tm i;have this:RdT E w (aV t i) (a.tmps.getD i undef):=this;rw [hi] at this;simp only [RdT,RdV,List.cons.injEq,and_true] at this⊢;exact⟨rfl,by simp [Unif],none,0,by rw [this];rfl,by simp,by simp,by simp⟩
 ·exact R.tm j
theorem xfp {α:Type} (m:Nat) (f:α→V) {g:α→V} [h:Lo f g] (l:List α):V.shifts m (l.map f)=l.map f:=V.shifts_pure _ _ (bV f l)
theorem yvg {P:Program} {cx:Cx} {N:Nat} {Q:Exit→Act→World→Prop} {k:List It} {n:Nat} {t:List (Nat×V)} {ob:List Ob} {l:List RO} {gd:Option (Nat×Bool)} {i:Nat} {f:FuncId} {xs:List X} (ys:List V) (x:V) (os:List Ob) {x':V} {os':List Ob} {ws:List V} (hF:Fnc P f ys fun y obs=>y=x∧obs=os) (hw:bQ ⟨n,t,ob⟩ gd=some true)
  (hx:xs.map (X.ev ⟨n,t,ob⟩)=ws) (hok:V.ressOk ⟨n,t,ob⟩ ws∧pK ws) (hs:Subs (V.lows (V.ress ⟨n,t,ob⟩ [] ws)) ys) (hsh:x.shift ob.length=x') (hos:os.map (Ob.shift ob.length)=os') (hq:yS ws x os) (h:EvR P cx N Q k l ⟨n,(i,x')::t,ob++os'⟩):EvR P cx N Q k (⟨some i,gd,.call f xs⟩::l) ⟨n,t,ob⟩:=by
 subst hsh hos;refine ye9 ys hF hw hx hok hs (fun y obs hy=>by obtain⟨rfl,rfl⟩:=hy;exact hq) fun y obs hy=>?_;obtain⟨rfl,rfl⟩:=hy;exact h
def SubV (x y:V):Prop:=∀(E:Env) (w:World) (cs:List Value),RdV E w x cs→RdV E w y cs
theorem SubV.refl (x:V):SubV x x:=fun _ _ _ h=>h
theorem SubV.nil (t:Bool) (s:Nat):SubV .nilS (.sl t s []):=by
 intro E w cs h;simp only [RdV] at h⊢;subst h;exact⟨rfl,by simp [Unif],none,0,by simp,by simp,by simp,by simp⟩
def SubVs:List V→List V→Prop
 |[],[]=>True
 |x::l,y::m=>SubV x y∧SubVs l m
 |_,_=>False
theorem SubVs.rd {E:Env} {w:World}:∀{l m:List V} {cs:List Value},SubVs l m→RdL E w l cs→RdL E w m cs
 |[],[],cs,_,h=>h
 |x::l,y::m,cs,hs,h=>by
  simp only [RdL] at h⊢;obtain⟨c,ys,h1,h2,h3⟩:=h;exact⟨c,ys,h1,hs.1 E w c h2,hs.2.rd h3⟩
 |[],y::m,cs,hs,h=>hs.elim
 |x::l,[],cs,hs,h=>hs.elim
theorem SubV.agg {l m:List V} (h:SubVs l m):SubV (.agg l) (.agg m):=by
 intro E w cs hr;simp only [RdV] at hr⊢;exact h.rd hr
theorem Sub.agg {l m:List V} (h:SubVs l m):Sub (.agg l) (.agg m):=by
 intro S w v hr;simp only [RdT] at hr⊢;obtain⟨cs,e,hr⟩:=hr;exact⟨cs,e,SubV.agg h _ _ _ hr⟩
theorem Rel.obSub {cx:Cx} {E:Env} {n:Nat} {t:List (Nat×V)} {ob:List Ob} {a:Act} {w:World} (R:Rel cx E ⟨n,t,ob⟩ a w) {r:Nat} {q:Bool} {T:TypeId} {g:Nat} {x y:V} (hr:ob[r]?=some ⟨.box q T,true,g,x⟩) (hs:∀cs,RdV E w x cs→RdV E w y cs):Rel cx E ⟨n,t,ob.set r ⟨.box q T,true,g,y⟩⟩ a w:=by
 have rl:r<ob.length:=(List.getElem?_eq_some_iff.1 hr).1;have get:∀(j:Nat) (o:Ob),(ob.set r ⟨.box q T,true,g,y⟩)[j]?=some o→∃o',ob[j]?=some o'∧o'.live=o.live∧o'.g=o.g∧(o'=o∨(o'=⟨.box q T,true,g,x⟩∧o=⟨.box q T,true,g,y⟩)):=by
  intro j o h;by_cases e:r=j
  ·subst e
   rw [List.getElem?_set_self rl] at h;obtain rfl:=Option.some.inj h;exact⟨_,hr,rfl,rfl,.inr ⟨rfl,rfl⟩⟩
  ·rw [List.getElem?_set_ne e] at h
   exact⟨o,h,rfl,rfl,.inl rfl⟩
 refine⟨R.df,R.n,R.tm,by simp [R.len],fun j o h=>?_,fun r1 r2 o1 o2 g1 g2 u1 u2 b h1 h2 h3 h4 h5 h6 h7 h8 h9=>?_,R.lt,R.fr,R.old,R.keep⟩
 ·obtain⟨o',k1,k2,k3,k4⟩:=get j o h
  obtain⟨u,m1,m2⟩:=R.ob j o' k1;rcases k4 with rfl|⟨rfl,rfl⟩
  ·exact⟨u,m1,m2⟩
  ·refine⟨u,m1,?_⟩
   unfold OkO at m2⊢;obtain⟨b,cs,c1,c2,c3,c4,c5⟩:=m2;exact⟨b,cs,c1,c2,hs _ c3,c4,c5⟩
 ·obtain⟨p1,k1,k2,k3,k4⟩:=get r1 o1 h2
  obtain⟨p2,q1,q2,q3,q4⟩:=get r2 o2 h3;exact R.sep r1 r2 p1 p2 g1 g2 u1 u2 b h1 k1 q1 (by rw [k2];exact h4) (by rw [q2];exact h5) h6 h7 h8 h9
theorem vI {P:Program} {cx:Cx} {N:Nat} {Q:Exit→Act→World→Prop} {k:List It} {n:Nat} {t:List (Nat×V)} {ob:List Ob} (r:Nat) {q:Bool} {T:TypeId} {g:Nat} {x:V} (y:V) (hr:ob[r]?=some ⟨.box q T,true,g,x⟩) (hs:SubV x y) {ob':List Ob} (ho:ob.set r ⟨.box q T,true,g,y⟩=ob') (h:Ev P cx N Q k ⟨n,t,ob'⟩):Ev P cx N Q k ⟨n,t,ob⟩:=by
 subst ho;exact⟨fun hn E a w R=>h.h hn E a w (R.obSub hr (hs E w))⟩
theorem RdL.nilOwn {E:Env} {w:World} {y:V} (hy:∀c,RdV E w .nilS c→RdV E w y c):∀{vs:List V} {cs:List Value} {j:Nat},vs[j]?=some .nilS→RdL E w vs cs→RdL E w (vs.set j y) cs
 |x::vs,cs,0,hj,h=>by
  simp only [List.getElem?_cons_zero,Option.some.injEq] at hj;subst hj;simp only [List.set_cons_zero,RdL] at h⊢;obtain⟨c,ys,h1,h2,h3⟩:=h;exact⟨c,ys,h1,hy c h2,h3⟩
 |x::vs,cs,j+1,hj,h=>by
  simp only [List.getElem?_cons_succ] at hj;simp only [List.set_cons_succ,RdL] at h⊢;obtain⟨c,ys,h1,h2,h3⟩:=h;exact⟨c,ys,h1,h2,RdL.nilOwn hy hj h3⟩
theorem lZ {P:Program} {cx:Cx} {N:Nat} {Q:Exit→Act→World→Prop} {k:List It} {n:Nat} {t:List (Nat×V)} {ob:List Ob} (r j:Nat) {q:Bool} {T:TypeId} {g:Nat} {vs:List V} (e s:Nat) (hr:ob[r]?=some ⟨.box q T,true,g,.agg vs⟩) (hj:vs[j]?=some .nilS) (hs:0<s) {ob':List Ob} (ho:(ob++[(⟨.row e,true,0,.arr s []⟩:Ob)]).set r ⟨.box q T,true,g,.agg (vs.set j (.own ob.length 0))⟩=ob') (h:Ev P cx N Q k ⟨n,t,ob'⟩):Ev P cx N Q k ⟨n,t,ob⟩:=by
 subst ho;refine⟨fun hn E a w R=>?_⟩;obtain⟨L,R'⟩:=R.new (w':=w) (o:=⟨.row e,true,0,.arr s []⟩) (u:=.slice none 0 0) (Below.refl _ _) (fun b hb=>by simp [aP] at hb) rfl rfl (by
  unfold OkO;exact⟨s,[],[],rfl,rfl,by simp [Unif],hs,by simp,World.ownsRow_nil _ _ _ _,by simp [RdL],fun b hb=>by simp [aP] at hb⟩)
 have rl:r<ob.length:=(List.getElem?_eq_some_iff.1 hr).1;have R':Rel cx {E with ref:=E.ref++[(0,.slice none 0 0)]} ⟨n,t,ob++[⟨.row e,true,0,.arr s []⟩]⟩ a w:=R';refine h.h hn _ a w (R'.obSub (by rw [List.getElem?_append_left rl];exact hr) fun cs hcs=>?_);simp only [RdV] at hcs⊢;refine RdL.nilOwn (fun c hc=>?_) hj hcs;simp only [RdV] at hc⊢;subst hc;refine⟨_,rfl,rfl,by simp [R.len],fun gc u h=>?_⟩;have hl:E.ref.length=ob.length:=R.len;rw [←hl,List.getElem?_append_right (Nat.le_refl _)] at h;simp at h;obtain⟨h1,h2⟩:=h;subst h1;exact⟨Nat.le_refl _,fun _=>h2⟩
def tX {α:Type} (f:Nat→α×Nat) (k:Nat):Nat→List α×Nat
 |0=>([],k)
 |i+1=>((tX f k i).1++[(f (tX f k i).2).1],(f (tX f k i).2).2)
theorem xp0 {α:Type} {f:Nat→α×Nat} {m:Nat} (hf:∀k,k≤m→(f k).2≤m) {k:Nat} (hk:k≤m):∀i,(tX f k i).2≤m
 |0=>hk
 |i+1=>hf _ (xp0 hf hk i)
theorem xp1 {α:Type} (f:Nat→α×Nat) (k:Nat):∀i,(tX f k i).1.length=i
 |0=>rfl
 |i+1=>by simp [tX,xp1 f k i]
theorem xvv {α:Type} {f:Nat→α×Nat} {p:α→Prop} (hf:∀k,p (f k).1) (k:Nat):∀i,∀x∈(tX f k i).1,p x
 |0=>by simp [tX]
 |i+1=>by
  intro x hx;simp only [tX,List.mem_append,List.mem_singleton] at hx;rcases hx with hx|rfl
  ·exact xvv hf k i x hx
  ·exact hf _
end Rdn.Dp
namespace Rdn.Dp
open Go Go.RowKit Rdn
def xkj:List It→AS→Option (List It)
 | .code (.seq x y)::k,_=>some (.code x::.code y::k)
 | .code .skip::k,_=>some k
 | .code (.block id x)::k,_=>some (.code x::.inBlock id::k)
 | .code (.exit id)::k,_=>xe9 id k
 | .code (.cond x y z)::k,σ=>match x.ev σ with
  | .bool true=>some (.code y::k)
  | .bool false=>some (.code z::k)
  |_=>none
 | .inBlock id::k,_=>some k
 | .rounds x (n+1)::k,_=>some (.code x::.rounds x n::k)
 |_,_=>none
def xi0:List Unit→List It→AS→Option (List It)
 |[],k,_=>some k
 |_::fu,k,σ=>match xkj k σ with
  |none=>some k
  |some k1=>xi0 fu k1 σ
section
variable {P:Program} {cx:Cx} {N:Nat} {Q:Exit→Act→World→Prop} {k k1 k2:List It} {σ:AS}
theorem xw5 (h:xkj k σ=some k1) (h':Ev P cx N Q k1 σ):Ev P cx N Q k σ:=by
 unfold xkj at h;split at h
 ·obtain rfl:=Option.some.inj h;exact xaz h'
 ·obtain rfl:=Option.some.inj h;exact xb0 h'
 ·obtain rfl:=Option.some.inj h;exact xav h'
 ·exact xaw h h'
 ·split at h
  ·rename_i e
   obtain rfl:=Option.some.inj h;exact zX e h'
  ·rename_i e
   obtain rfl:=Option.some.inj h;exact zW e h'
  ·cases h
 ·obtain rfl:=Option.some.inj h;exact xax h'
 ·obtain rfl:=Option.some.inj h;exact xay h'
 ·cases h
theorem xw6:∀{fu:List Unit} {k k2:List It},xi0 fu k σ=some k2→Ev P cx N Q k2 σ→Ev P cx N Q k σ
 |[],k,k2,h,h'=>by
  simp only [xi0,Option.some.injEq] at h;subst h;exact h'
 |_::fu,k,k2,h,h'=>by
  simp only [xi0] at h;split at h
  ·obtain rfl:=Option.some.inj h;exact h'
  ·rename_i k1 e
   exact xw5 e (xw6 h h')
theorem gJ (h:xkj k σ=some k1) (h2:xi0 [(),(),(),(),(),()] k1 σ=some k2) (h':Ev P cx N Q k2 σ):Ev P cx N Q k σ:=xw5 h (xw6 h2 h')
def goR (σ:AS):List RO→Option (List RO×AS)
 |⟨d,gd,.p m⟩::l=>some (⟨d,gd,.p m⟩::l,σ)
 |⟨d,gd,.m m⟩::l=>some (⟨d,gd,.m m⟩::l,σ)
 |⟨d,gd,.call f xs⟩::l=>match bQ σ gd with
  |some false=>some (l,σ.put d (.tup []))
  |_=>none
 |⟨d,gd,.callv f xs⟩::l=>match bQ σ gd with
  |some false=>some (l,σ.put d (.tup []))
  |_=>none
 |[]=>none
theorem gK {l l':List RO} {σ':AS} (h:goR σ l=some (l',σ')) (h':mD (EvR P cx N Q k) [(),(),(),(),(),(),(),()] l' σ'):EvR P cx N Q k l σ:=by
 unfold goR at h;split at h
 ·obtain⟨rfl,rfl⟩:=Prod.mk.inj (Option.some.inj h);exact dH h'
 ·obtain⟨rfl,rfl⟩:=Prod.mk.inj (Option.some.inj h);exact dH h'
 ·split at h
  ·rename_i e
   obtain⟨rfl,rfl⟩:=Prod.mk.inj (Option.some.inj h);exact xex e (dH h')
  ·cases h
 ·split at h
  ·rename_i e
   obtain⟨rfl,rfl⟩:=Prod.mk.inj (Option.some.inj h);exact xex e (dH h')
  ·cases h
 ·cases h
def goW (σ:AS):List RO→Option (List RO×AS×Nat)
 |⟨d,gd,.p m⟩::l=>some (⟨d,gd,.p m⟩::l,σ,0)
 |⟨d,gd,.m m⟩::l=>some (⟨d,gd,.m m⟩::l,σ,0)
 |⟨d,gd,.call f xs⟩::l=>match bQ σ gd with
  |some false=>some (l,σ.put d (.tup []),1)
  |_=>none
 |⟨d,gd,.callv f xs⟩::l=>match bQ σ gd with
  |some false=>some (l,σ.put d (.tup []),1)
  |_=>none
 |[]=>none
variable {t0:List (Nat×V)} {ob0:List Ob} {B:List (List Nat)} {i nx:Nat} {lg:List Lg}
theorem mZ {l l':List RO} {σ':AS} {j:Nat} (h:goW σ l=some (l',σ',j)) (h':lJ (EvW P cx N Q k t0 ob0 B) [] [(),(),(),(),(),(),(),()] l' (i+j) σ' lg nx):EvW P cx N Q k t0 ob0 B l i σ lg nx:=by
 unfold goW at h;split at h
 ·obtain⟨rfl,h2⟩:=Prod.mk.inj (Option.some.inj h);obtain⟨rfl,rfl⟩:=Prod.mk.inj h2;exact kD h'
 ·obtain⟨rfl,h2⟩:=Prod.mk.inj (Option.some.inj h);obtain⟨rfl,rfl⟩:=Prod.mk.inj h2;exact kD h'
 ·split at h
  ·rename_i e
   obtain⟨rfl,h2⟩:=Prod.mk.inj (Option.some.inj h);obtain⟨rfl,rfl⟩:=Prod.mk.inj h2;exact xco e (kD h')
  ·cases h
 ·split at h
  ·rename_i e
   obtain⟨rfl,h2⟩:=Prod.mk.inj (Option.some.inj h);obtain⟨rfl,rfl⟩:=Prod.mk.inj h2;exact xco e (kD h')
  ·cases h
 ·cases h
theorem sQ (md:List Nat) {l l':List RO} {σ':AS} {j:Nat} (h:goW σ l=some (l',σ',j)) (h':lJ (EvW P cx N Q k t0 ob0 B) md [(),(),(),(),(),(),(),()] l' (i+j) σ' lg nx):EvW P cx N Q k t0 ob0 B l i σ lg nx:=by
 unfold goW at h;split at h
 ·obtain⟨rfl,h2⟩:=Prod.mk.inj (Option.some.inj h);obtain⟨rfl,rfl⟩:=Prod.mk.inj h2;exact kD h'
 ·obtain⟨rfl,h2⟩:=Prod.mk.inj (Option.some.inj h);obtain⟨rfl,rfl⟩:=Prod.mk.inj h2;exact kD h'
 ·split at h
  ·rename_i e
   obtain⟨rfl,h2⟩:=Prod.mk.inj (Option.some.inj h);obtain⟨rfl,rfl⟩:=Prod.mk.inj h2;exact xco e (kD h')
  ·cases h
 ·split at h
  ·rename_i e
   obtain⟨rfl,h2⟩:=Prod.mk.inj (Option.some.inj h);obtain⟨rfl,rfl⟩:=Prod.mk.inj h2;exact xco e (kD h')
  ·cases h
 ·cases h
abbrev oM:List Unit:=[(),(),(),(),(),(),(),()]
theorem jJ {l:List RO} (hm:P.follows .mixedOrders=true) (hn:nC l=0) (hd:yF B l 0 []=true) (h:lJ (EvW P cx N Q k t0 (ob0++[]) B) [] [(),(),(),(),(),(),(),()] l 0 ⟨N,t0,ob0++[]⟩ [] ob0.length):Ev P cx N Q (.code (.dreg l B)::k) ⟨N,t0,ob0⟩:=iL hm [] 0 (by simpa using hn) hd h
theorem jK {l:List RO} (hm:P.follows .mixedOrders=true) (hn:nC l=1) (hd:yF B l 0 []=true) (h:lJ (EvW P cx N Q k t0 (ob0++[kP]) B) [] [(),(),(),(),(),(),(),()] l 0 ⟨N,t0,ob0++[kP]⟩ [] ob0.length):Ev P cx N Q (.code (.dreg l B)::k) ⟨N,t0,ob0⟩:=iL hm [] 1 (by simpa using hn) hd h
theorem jL {l:List RO} (hm:P.follows .mixedOrders=true) (hn:nC l=2) (hd:yF B l 0 []=true) (h:lJ (EvW P cx N Q k t0 (ob0++[kP,kP]) B) [] [(),(),(),(),(),(),(),()] l 0 ⟨N,t0,ob0++[kP,kP]⟩ [] ob0.length):Ev P cx N Q (.code (.dreg l B)::k) ⟨N,t0,ob0⟩:=iL hm [] 2 (by simpa using hn) hd h
end
def xhp (l m:List V):Prop:=SubVs l m
theorem xi9 {P:Program} {cx:Cx} {N:Nat} {Q:Exit→Act→World→Prop} {k:List It} {σ:AS} {l:List RO} {d:Option Nat} {gd:Option (Nat×Bool)} {f:FuncId} {xs:List X} (h:(xaq σ xs).2∧EvR P cx N Q k (⟨d,gd,.call f xs⟩::l) (xaq σ xs).1):EvR P cx N Q k (⟨d,gd,.call f xs⟩::l) σ:=by
 refine⟨fun hn E a w R=>?_⟩;obtain⟨E',R',hn'⟩:=Rel.calmL _ R h.1;exact h.2.h (hn'.trans hn) E' a w R'
def Sub2 (x y:V):Prop:=match x,y with
 | .agg l,.agg m=>xhp l m
 |x,y=>Sub x y
def Subs2:List V→List V→Prop
 |[],[]=>True
 |x::l,y::m=>Sub2 x y∧Subs2 l m
 |_,_=>False
theorem SubVs.refl:∀l:List V,SubVs l l
 |[]=>trivial
 |x::l=>⟨SubV.refl x,SubVs.refl l⟩
theorem Sub2.to {x y:V} (h:Sub2 x y):Sub x y:=by
 unfold Sub2 at h;split at h
 ·exact Sub.agg h
 ·exact h
theorem yvw (x:V):Sub2 x x=True:=eq_true (by
 cases x<;>first|exact SubVs.refl _|exact Sub.refl _)
theorem yvv (s:Nat):Sub2 .nilS (.sl false s [])=True:=eq_true (Sub.nil s)
theorem yvy (x:V):SubV x x=True:=eq_true (SubV.refl x)
theorem yvx (t:Bool) (s:Nat):SubV .nilS (.sl t s [])=True:=eq_true (SubV.nil t s)
theorem yvu (l m:List V):Sub2 (.agg l) (.agg m)=xhp l m:=rfl
theorem yfs (x y:V) (l m:List V):xhp (x::l) (y::m)=(SubV x y∧xhp l m):=rfl
theorem yft:xhp [] []=True:=rfl
theorem yw1:Subs2 [] []=True:=rfl
theorem yw0 (x y:V) (l m:List V):Subs2 (x::l) (y::m)=(Sub2 x y∧Subs2 l m):=rfl
theorem Subs2.to:∀{l m:List V},Subs2 l m→Subs l m
 |[],[],_=>trivial
 |x::l,y::m,h=>⟨h.1.to,Subs2.to h.2⟩
 |[],y::m,h=>h.elim
 |x::l,[],h=>h.elim
def xl1:List Ob→Prop
 |[]=>True
 |o::l=>o.v.fresh=true∧xl1 l
theorem xez:∀{l:List Ob},xl1 l→∀o∈l,o.v.fresh=true
 |o'::l,h,o,ho=>by
  rcases List.mem_cons.1 ho with rfl|ho
  ·exact h.1
  ·exact xez h.2 o ho
def xeq (σ:AS) (ws ys:List V) (x:V) (obs:List Ob):Prop:=V.ressOk σ ws∧pK ws∧Subs2 (V.lows (V.ress σ [] ws)) ys∧(V.pures ws=true∨(x.fresh=true∧xl1 obs))
section
variable {P:Program} {cx:Cx} {N:Nat} {Q:Exit→Act→World→Prop} {k:List It} {n:Nat} {t:List (Nat×V)} {ob:List Ob} {l:List RO} {gd:Option (Nat×Bool)} {i:Nat} {f:FuncId} {xs:List X} {ys:List V} {x:V} {os:List Ob}
theorem xdl (hF:Fnc P f ys fun y obs=>y=x∧obs=[]) (h:bQ ⟨n,t,ob⟩ gd=some true∧xeq ⟨n,t,ob⟩ (xs.map (X.ev ⟨n,t,ob⟩)) ys x []∧V.pureT x=true∧mD (EvR P cx N Q k) [(),(),(),(),(),(),(),()] l ⟨n,(i,x)::t,ob⟩):EvR P cx N Q k (⟨some i,gd,.call f xs⟩::l) ⟨n,t,ob⟩:=by
 obtain⟨h1,⟨h2,h3,h4,h5⟩,h6,h7⟩:=h;exact yve ys x hF h1 rfl ⟨h2,h3⟩ h4.to h6 (h5.imp id fun h=>⟨h.1,xez h.2⟩) (dH h7)
theorem xoc (hF:Fnc P f ys fun y obs=>y=x∧obs=os) (h:bQ ⟨n,t,ob⟩ gd=some true∧xeq ⟨n,t,ob⟩ (xs.map (X.ev ⟨n,t,ob⟩)) ys x os∧mD (EvR P cx N Q k) [(),(),(),(),(),(),(),()] l ⟨n,(i,x.shift ob.length)::t,ob++os.map (Ob.shift ob.length)⟩):EvR P cx N Q k (⟨some i,gd,.call f xs⟩::l) ⟨n,t,ob⟩:=by
 obtain⟨h1,⟨h2,h3,h4,h5⟩,h7⟩:=h;exact yvg ys x os hF h1 rfl ⟨h2,h3⟩ h4.to rfl rfl (h5.imp id fun h=>⟨h.1,xez h.2⟩) (dH h7)
theorem xdm {x0:X} {cs:List V} (hF:Fnc P f ys fun y obs=>y=x∧obs=[]) (hf:okF P f=true) (hv:xdo (x0.ev ⟨n,t,ob⟩)=some (f,cs)) (h:bQ ⟨n,t,ob⟩ gd=some true∧xeq ⟨n,t,ob⟩ (xs.map (X.ev ⟨n,t,ob⟩)++cs) ys x []∧V.pureT x=true∧mD (EvR P cx N Q k) [(),(),(),(),(),(),(),()] l ⟨n,(i,x)::t,ob⟩):EvR P cx N Q k (⟨some i,gd,.callv x0 xs⟩::l) ⟨n,t,ob⟩:=by
 obtain⟨h1,⟨h2,h3,h4,h5⟩,h6,h7⟩:=h;refine ykr ys _ hF hf hv h1 h2 h3 h4.to (fun y obs hy=>by obtain⟨rfl,rfl⟩:=hy;exact h5.imp id fun h=>⟨h.1,xez h.2⟩) fun y obs hy=>?_;obtain⟨rfl,rfl⟩:=hy;rw [V.shift_pureT _ _ h6,List.map_nil,List.append_nil];exact dH h7
variable {t0:List (Nat×V)} {ob0:List Ob} {B:List (List Nat)} {nx:Nat} {σ:AS} {lg:List Lg} {d:Option Nat} {j:Nat}
theorem xdn (hF:Fnc P f ys fun y obs=>y=x∧obs=[]) (h:bQ σ gd=some true∧xeq σ (xs.map (X.ev σ)) ys x []∧V.pureT x=true∧lJ (EvW P cx N Q k t0 ob0 B) [] [(),(),(),(),(),(),(),()] l (j+1) (σ.put d x) (jQ j (V.idss (xs.map (X.ev σ))) none lg) nx):EvW P cx N Q k t0 ob0 B (⟨d,gd,.call f xs⟩::l) j σ lg nx:=by
 obtain⟨h1,⟨h2,h3,h4,h5⟩,h6,h7⟩:=h;exact ykx ys x hF h1 rfl ⟨h2,h3⟩ h4.to h6 (h5.imp id fun h=>⟨h.1,xez h.2⟩) (kD h7)
theorem xhu {x0:X} {cs:List V} (hF:Fnc P f ys fun y obs=>y=x∧obs=[]) (hf:okF P f=true) (hv:xdo (X.ev σ x0)=some (f,cs)) (h:bQ σ gd=some true∧xeq σ (xs.map (X.ev σ)++cs) ys x []∧V.pureT x=true∧lJ (EvW P cx N Q k t0 ob0 B) [] [(),(),(),(),(),(),(),()] l (j+1) (σ.put d x) (jQ j (V.idss (xs.map (X.ev σ)++cs)) none lg) nx):EvW P cx N Q k t0 ob0 B (⟨d,gd,.callv x0 xs⟩::l) j σ lg nx:=by
 obtain⟨h1,⟨h2,h3,h4,h5⟩,h6,h7⟩:=h;exact yl1 ys x hF hf hv h1 rfl ⟨h2,h3⟩ h4.to h6 (h5.imp id fun h=>⟨h.1,xez h.2⟩) (kD h7)
theorem xod {x:V} {e s:Nat} {qs:List V} (hF:Fnc P f ys fun y obs=>y=x∧obs=[⟨.row e,true,0,.arr s qs⟩]) (h:bQ σ gd=some true∧xeq σ (xs.map (X.ev σ)) ys x [⟨.row e,true,0,.arr s qs⟩]∧σ.ob[nx]?=some kP∧V.pures qs=true∧x.upOk=true∧lJ (EvW P cx N Q k t0 ob0 B) [] [(),(),(),(),(),(),(),()] l (j+1) ((⟨σ.n,σ.t,σ.ob.set nx ⟨.row e,true,1,.arr s qs⟩⟩:AS).put d (x.up nx)) (jQ j (nx::V.idss (xs.map (X.ev σ))) (some nx) lg) (nx+1)):EvW P cx N Q k t0 ob0 B (⟨d,gd,.call f xs⟩::l) j σ lg nx:=by
 obtain⟨h1,⟨h2,h3,h4,h5⟩,h8,h6,hu,h7⟩:=h;exact yl0 ys hu hF h1 h8 rfl ⟨h2,h3⟩ h4.to h6 (h5.imp id fun h=>⟨h.1,xez h.2⟩) (kD h7)
def xro:Option Ob→Prop
 |some ⟨.row _,true,_,.arr _ _⟩=>True
 |_=>False
def outOk2 (σ:AS):List Nat→Prop
 |[]=>True
 |[r]=>xro σ.ob[r]?
 |_=>False
theorem outOk2.to {σ:AS} {ids:List Nat} (h:outOk2 σ ids):vP σ ids:=by
 unfold outOk2 at h;split at h
 ·exact⟨List.nodup_nil,fun r hr=>by cases hr⟩
 ·rename_i r
  unfold xro at h;split at h
  ·rename_i e g s l' h'
   exact⟨by simp,fun q hq=>by simp at hq;subst hq;exact⟨e,g,s,l',h'⟩⟩
  ·exact h.elim
 ·exact h.elim
theorem ret {f:FuncId} {W:World} {S:Nat→Prop} {R0:V→List Ob→Prop} {n0:Nat} {m:MC} {rs:List POp} (hc:gU P f=some (n0,m,rs)) (ids:List Nat) (h:(nK ⟨n,t,ob⟩ rs).2∧outOk2 ⟨n,t,ob⟩ ids∧V.resOk ⟨n,t,ob⟩ (nK ⟨n,t,ob⟩ rs).1∧R0 ((nK ⟨n,t,ob⟩ rs).1.res ⟨n,t,ob⟩ ids) (yX ⟨n,t,ob⟩ ids)):Ev P ⟨W,fun _=>False,S⟩ N (post P f W S R0) (.code .ret::k) ⟨n,t,ob⟩:=by
 obtain⟨h1,h2,h3,h4⟩:=h;exact yvj hc ids rfl h1 h2.to h3 rfl rfl h4
end
theorem Rel.frozeB {cx:Cx} {E:Env} {a:Act} {w:World} {n:Nat} {t:List (Nat×V)} {ob:List Ob} (R:Rel cx E ⟨n,t,ob⟩ a w) {r g:Nat} {T:TypeId} {c:V} (ho:ob[r]?=some ⟨.box false T,true,g,c⟩) (hp:c.pure=true):∃E',Rel cx E' ⟨n,t,ob.set r ⟨.box false T,false,g,c⟩⟩ a w∧∀v,RdT E w (.ptr r g [] 0) v→RdT E' w (.rp c) v:=by
 obtain⟨u,k1,k2⟩:=R.ob r _ ho;have k3:=k2;unfold OkO at k3;obtain⟨b,cs,rfl,m2,m3,m4,m5⟩:=k3;simp only [Bool.false_eq_true,if_false] at m4;obtain⟨L,R1⟩:=R.freeze (r:=r) ho k1 (fun b' hb'=>by
  simp only [aP,Option.some.injEq] at hb';subst hb';exact⟨m4,hp⟩)
 have e:(⟨n,t,ob⟩:AS).upd r Ob.freeze=⟨n,t,ob.set r ⟨.box false T,false,g,c⟩⟩:=by simp [AS.upd,ho,Ob.freeze]
 rw [e] at R1;refine⟨_,R1,fun v hx=>?_⟩;have hv:v=.pointer (some ⟨b,0,none⟩):=by
  simp only [RdT,RdV] at hx;obtain⟨v',e,_,_,h⟩:=hx;simp only [List.cons.injEq,and_true] at e;subst e;obtain⟨_,h2⟩:=h g _ k1;obtain⟨b',e1,e2⟩:=h2 rfl;simp only [aP,Option.some.injEq] at e1;subst e1;exact e2
 rw [hv];exact xj9 hp (.inr rfl) (m3.mono L) (fun j v hv=>by simpa [World.cell?,m2] using hv)
theorem Rel.slot {cx:Cx} {E:Env} {a:Act} {w:World} {n:Nat} {t:List (Nat×V)} {ob:List Ob} (R:Rel cx E ⟨n,t,ob⟩ a w) {i:Nat} {y:V} (h:RdT E w y (a.tmps.getD i undef)):Rel cx E ⟨n,(i,y)::t,ob⟩ a w:=by
 refine⟨R.df,R.n,fun j=>?_,R.len,R.ob,R.sep,R.lt,R.fr,R.old,R.keep⟩;simp only [aV];split
 ·rename_i e
  subst e;exact h
 ·exact R.tm j
section
variable {P:Program} {cx:Cx} {N:Nat} {Q:Exit→Act→World→Prop} {k:List It} {n:Nat} {t:List (Nat×V)} {ob:List Ob} {l:List RO}
theorem xia (i:Nat) {f:FuncId} {r g:Nat} {T:TypeId} {c:V} (hi:aV t i=.clo (.fn f) [.ptr r g [] 0]) (ho:ob[r]?=some ⟨.box false T,true,g,c⟩) (hp:c.pure=true) (h:EvR P cx N Q k l ⟨n,(i,.clo (.fn f) [.rp c])::t,ob.set r ⟨.box false T,false,g,c⟩⟩):EvR P cx N Q k l ⟨n,t,ob⟩:=by
 refine⟨fun hn E a w R=>?_⟩;obtain⟨E',R',hv⟩:=R.frozeB ho hp;have hx:RdT E w (aV t i) (a.tmps.getD i undef):=R.tm i;rw [hi] at hx;refine h.h hn E' a w (R'.slot ?_);simp only [RdT,RdTs] at hx⊢;obtain⟨vs,h1,v,ys,h2,h3,h4⟩:=hx;have h5:=hv v (by simpa only [RdT] using h3);simp only [RdT] at h5;exact⟨vs,h1,v,ys,h2,h5,h4⟩
end
attribute [go_sem] V.up V.ups V.upOk V.upsOk yvw yvv yvy yvx yfs yft yw1 yw0 yvu xl1 xeq xro outOk2 yX xdo V.noTups yk9 ykh V.shift V.shifts xfp Ob.shift List.idxOf?_cons
end Rdn.Dp
