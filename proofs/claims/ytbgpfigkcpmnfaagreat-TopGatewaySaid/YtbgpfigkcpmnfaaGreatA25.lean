import Derived.Test.YtbgpfigkcpmnfaaGreatA16
import Derived.Test.YtbgpfigkcpmnfaaGreatA8
import Derived.Test.YtbgpfigkcpmnfaaGreatA20
import Derived.Test.YtbgpfigkcpmnfaaGreatA6
import Derived.Test.YtbgpfigkcpmnfaaGreatA21
import Derived.Test.YtbgpfigkcpmnfaaGreatA22
import Derived.Test.YtbgpfigkcpmnfaaGreatA23
import Derived.Test.YtbgpfigkcpmnfaaGreatA24
import Derived.Test.YtbgpfigkcpmnfaaGreatA13
import Derived.Test.YtbgpfigkcpmnfaaGreatA14
import Derived.Test.YtbgpfigkcpmnfaaGreatA11
set_option linter.unusedSimpArgs false
set_option linter.unusedVariables false
set_option maxHeartbeats 64000000
set_option maxRecDepth 100000
namespace Rdn.Dp
open Go Go.RowKit Rdn
section
variable {P:Program} {cx:Cx} {E E' E0:Env} {σ:AS} {a:Act} {w w':World}
instance :Inhabited Ob:=⟨resv⟩
theorem OkO.mv {ρ:Nat→Nat×Nat} {γ:Nat→Option Nat} {o:Ob} {u:Value} (h:OkO cx E w o u) (hl:o.live=true) (hn:o.v.now γ) (hBB:∀b,E.B b↔E0.B b)
  (hr:∀r g u,γ r=some g→E.ref[r]?=some (g,u)→E0.ref[(ρ r).1]?=some ((ρ r).2,u)) (hγ:∀r g,γ r=some g→∃u,E.ref[r]?=some (g,u)) (g':Nat):OkO cx E0 w ⟨o.k,true,g',o.v.mv ρ⟩ u:=by
 have hB:∀b,E.B b→E0.B b:=fun b hb=>(hBB b).1 hb;have hnB:=fun b hb=>h.live_B (b:=b) hl hb;have hnB0:∀b,blk u=some b→¬E0.B b:=fun b hb h2=>hnB b hb ((hBB b).2 h2);obtain⟨kk,lv,g,v⟩:=o;dsimp only at hl hn hnB;subst hl;cases kk with
 |box q T=>
  unfold OkO at h⊢;obtain⟨b,cs,rfl,m2,m3,m4,m5⟩:=h;exact⟨b,cs,rfl,m2,xmu hB hr hγ hn m3,m4,by rw [if_pos rfl];exact hnB0 b rfl⟩
 |row e=>
  unfold OkO at h⊢;obtain⟨s,l,ys,m1,m2,m3,m4,m5,m6,m7,m8⟩:=h;dsimp only at m1 m8;subst m1;have hlen:(V.mvs ρ l).length=l.length:=by rw [xco,List.length_map]
  have hn':V.nows γ l:=by simpa only [V.now] using hn
  exact⟨s,_,ys,rfl,by rw [V.mvs_pure _ _ m2,V.lows_pures];exact m2,xdd m3,m4,by omega,by rw [hlen];exact m6,xgf hB hr hγ hn' m7,fun b hb=>by rw [if_pos rfl];exact hnB0 b hb⟩
 |rows q e=>
  unfold OkO at h⊢;obtain⟨m0,s,l,ys,m1,m3,m4,m5,m6,m7,m8⟩:=h;dsimp only at m1 m8;subst m1;have hlen:(V.mvs ρ l).length=l.length:=by rw [xco,List.length_map]
  have hn':V.nows γ l:=by simpa only [V.now] using hn
  exact⟨rfl,s,_,ys,rfl,xdd m3,m4,by omega,by rw [hlen];exact m6,xgf hB hr hγ hn' m7,fun b hb=>⟨hnB0 b hb,(m8 b hb).2⟩⟩
def xe6 {α:Type} (ws:List (Nat×α)) (l:List α):List α:=ws.foldr (fun p l=>l.set p.1 p.2) l
theorem xgp {α:Type}:∀(ws:List (Nat×α)) (l:List α),(xe6 ws l).length=l.length
 |[],_=>rfl
 |p::ws,l=>by
  have ih:=xgp ws l;unfold xe6 at ih⊢;simp [ih]
theorem xpn {α:Type} {q:Nat}:∀{ws:List (Nat×α)} {l:List α},(∀p∈ws,p.1≠q)→(xe6 ws l)[q]?=l[q]?
 |[],_,_=>rfl
 |p::ws,l,h=>by
  have ih:=xpn (q:=q) (ws:=ws) (l:=l) fun r hr=>h r (by simp [hr]);unfold xe6 at ih⊢;rw [List.foldr_cons,List.getElem?_set_ne (h p (by simp)),ih]
theorem xpm {α:Type} {q:Nat} {x:α}:∀{ws:List (Nat×α)} {l:List α},(ws.map (·.1)).Nodup→(q,x)∈ws→q<l.length→(xe6 ws l)[q]?=some x
 |p::ws,l,hd,hm,hl=>by
  have hd':=List.nodup_cons.1 (by simpa using hd:(p.1::ws.map (·.1)).Nodup);have hlen:(xe6 ws l).length=l.length:=xgp ws l;rcases List.mem_cons.1 hm with rfl|hm
  ·show((xe6 ws l).set q x)[q]?=_
   rw [List.getElem?_set_self (by rw [hlen];exact hl)]
  ·have hne:p.1≠q:=fun e=>hd'.1 (by rw [e];exact List.mem_map.2 ⟨_,hm,rfl⟩)
   show((xe6 ws l).set p.1 p.2)[q]?=_;rw [List.getElem?_set_ne hne];exact xpm hd'.2 hm hl
def plR (rs:List Nat) (n:Nat) (q:Nat):Nat×Nat:=(rs.getD (q-n) 0,1)
def plG (n m:Nat) (q:Nat):Option Nat:=if n≤q∧q<n+m then some 0 else none
def plO (rs:List Nat) (n:Nat) (obs:List Ob):List (Nat×Ob):=List.zipWith (fun r o=>(r,⟨o.k,true,1,o.v.mv (plR rs n)⟩)) rs obs
theorem Rel.placeL (R:Rel cx E σ a w) (L:Leads E w E' w') {obs:List Ob} (R':Rel cx E' {σ with ob:=σ.ob++obs} a w') (rs:List Nat) (hlen:rs.length=obs.length) (hnd:rs.Nodup) (hr:∀r∈rs,σ.ob[r]?=some resv) (ho:∀o∈obs,o.live=true∧o.g=0∧o.v.now (plG σ.ob.length obs.length)):
  ∃E'',Leads E w E'' w'∧(∀x v,x.now (plG σ.ob.length obs.length)→RdT E' w' x v→RdT E'' w' (x.mv (plR rs σ.ob.length)) v)∧Rel cx E'' {σ with ob:=xe6 (plO rs σ.ob.length obs) σ.ob} a w':=by
 have hEl:E'.ref.length=σ.ob.length+obs.length:=by rw [R'.len];simp
 have hE:E.ref.length=σ.ob.length:=R.len;have Rc:=R'.cut σ.ob.length (by simp) (fun i=>by have:=(R.tm i).scp;rwa [R.len] at this) (fun o' ho'=>by
  have ho':o'∈σ.ob:=by simpa using ho'
  obtain⟨j,hj,e⟩:=List.mem_iff_getElem.1 ho';obtain⟨u',_,k⟩:=R.ob j o' (by rw [List.getElem?_eq_getElem hj,e]);have:=k.scp
  rwa [R.len] at this)
 have Rc:Rel cx {E' with ref:=E'.ref.take σ.ob.length} σ a w':=by
  have e:(σ.ob++obs).take σ.ob.length=σ.ob:=by simp
  simp only [e] at Rc;exact Rc
 have Lc:Leads E w {E' with ref:=E'.ref.take σ.ob.length} w':=⟨L.b,L.f,by simp only [List.length_take,R.len];omega,fun q g v hq h=>by
  refine L.ref q g v hq ?_;rw [List.getElem?_take] at h;split at h
  ·exact h
  ·cases h⟩
 have hus:∀i,i<obs.length→∃u,E'.ref[σ.ob.length+i]?=some (0,u)∧OkO cx E' w' obs[i]! u:=by
  intro i hi;have h1:(σ.ob++obs)[σ.ob.length+i]?=some obs[i]!:=by
   rw [List.getElem?_append_right (by omega),Nat.add_sub_cancel_left,List.getElem?_eq_getElem hi,getElem!_pos obs i hi]
  obtain⟨u,m1,m2⟩:=R'.ob _ _ h1;have hm:obs[i]!∈obs:=by rw [getElem!_pos obs i hi];exact List.getElem_mem hi
  rw [(ho _ hm).2.1] at m1;exact⟨u,m1,m2⟩
 obtain⟨wr,hwr⟩:∃wr:List (Nat×(Nat×Value)),wr=List.zipWith (fun r i=>(r,(1,(E'.ref.getD (σ.ob.length+i) (0,undef)).2))) rs (List.range obs.length):=⟨_,rfl⟩;have wr_keys:wr.map (·.1)=rs:=by
  rw [hwr,List.map_zipWith];refine List.ext_getElem (by simp [hlen]) (fun i h1 h2=>by simp)
 have wo_keys:(plO rs σ.ob.length obs).map (·.1)=rs:=by
  unfold plO;rw [List.map_zipWith];refine List.ext_getElem (by simp [hlen]) (fun i h1 h2=>by simp)
 have wr_at:∀i,i<rs.length→∀u,E'.ref[σ.ob.length+i]?=some (0,u)→(rs[i]!,(1,u))∈wr:=by
  intro i hi u hu;rw [hwr];refine List.mem_iff_getElem.2 ⟨i,by simp;omega,?_⟩;simp [getElem!_pos rs i hi,List.getD_eq_getElem?_getD,hu]
 have wo_at:∀i,i<rs.length→(rs[i]!,(⟨obs[i]!.k,true,1,obs[i]!.v.mv (plR rs σ.ob.length)⟩:Ob))∈plO rs σ.ob.length obs:=by
  intro i hi;refine List.mem_iff_getElem.2 ⟨i,by unfold plO;simp;omega,?_⟩;unfold plO;simp [getElem!_pos rs i hi,getElem!_pos obs i (by omega)]
 have rs_lt:∀i,i<rs.length→rs[i]!<σ.ob.length:=by
  intro i hi;have hm:rs[i]!∈rs:=by rw [getElem!_pos rs i hi];exact List.getElem_mem hi
  exact(List.getElem?_eq_some_iff.1 (hr _ hm)).1
 have cases_:∀q,(∃i,i<rs.length∧q=rs[i]!)∨(∀p∈rs,p≠q):=by
  intro q;by_cases h:q∈rs
  ·obtain⟨i,hi,e⟩:=List.mem_iff_getElem.1 h
   exact .inl ⟨i,hi,by rw [getElem!_pos rs i hi,e]⟩
  ·exact .inr fun p hp e=>h (e▸hp)
 generalize hEc:({E' with ref:=E'.ref.take σ.ob.length}:Env)=Ec at *;have hB:Ec.B=E'.B:=by rw [←hEc]
 have hF:Ec.F=E'.F:=by rw [←hEc]
 have hrr:Ec.ref=E'.ref.take σ.ob.length:=by rw [←hEc]
 have hEcl:Ec.ref.length=σ.ob.length:=Rc.len;have ref_at:∀i,i<rs.length→∀u,E'.ref[σ.ob.length+i]?=some (0,u)→(xe6 wr Ec.ref)[rs[i]!]?=some (1,u):=fun i hi u hu=>
  xpm (by rw [wr_keys];exact hnd) (wr_at i hi u hu) (by rw [hEcl];exact rs_lt i hi)
 have ref_no:∀q,(∀p∈rs,p≠q)→(xe6 wr Ec.ref)[q]?=Ec.ref[q]?:=fun q h=>xpn fun p hp=>h p.1 (by rw [←wr_keys];exact List.mem_map.2 ⟨p,hp,rfl⟩);have ygx:∀i,i<rs.length→(xe6 (plO rs σ.ob.length obs) σ.ob)[rs[i]!]?=some ⟨obs[i]!.k,true,1,obs[i]!.v.mv (plR rs σ.ob.length)⟩:=fun i hi=>
  xpm (by rw [wo_keys];exact hnd) (wo_at i hi) (rs_lt i hi)
 have ob_no:∀q,(∀p∈rs,p≠q)→(xe6 (plO rs σ.ob.length obs) σ.ob)[q]?=σ.ob[q]?:=fun q h=>xpn fun p hp=>h p.1 (by rw [←wo_keys];exact List.mem_map.2 ⟨p,hp,rfl⟩);have L2:Leads Ec w' {Ec with ref:=xe6 wr Ec.ref} w':=by
  refine⟨fun b hb=>⟨hb,rfl⟩,fun _ h=>h,by simp [xgp],fun q g v hq h=>?_⟩;rcases cases_ q with ⟨i,hi,rfl⟩|hno
  ·obtain⟨u,k1,_⟩:=hus i (by omega)
   have h:(xe6 wr Ec.ref)[rs[i]!]?=some (g,v):=h;rw [ref_at i hi u k1] at h;injection h with h
   injection h with h1 h2
   subst h1;have hm:rs[i]!∈rs:=by rw [getElem!_pos rs i hi];exact List.getElem_mem hi
   obtain⟨u0,k2,_⟩:=Rc.ob _ _ (hr _ hm);exact⟨0,u0,k2,by omega,fun e=>by omega⟩
  ·have h:(xe6 wr Ec.ref)[q]?=some (g,v):=h
   rw [ref_no q hno] at h;exact⟨g,v,h,Nat.le_refl _,fun _=>rfl⟩
 have hmvr:∀r g u,plG σ.ob.length obs.length r=some g→E'.ref[r]?=some (g,u)→(xe6 wr Ec.ref)[(plR rs σ.ob.length r).1]?=some ((plR rs σ.ob.length r).2,u):=by
  intro r g u h hu;unfold plG at h;split at h
  ·rename_i hc
   injection h with h
   subst h;have:=ref_at (r-σ.ob.length) (by omega) u (by rw [show σ.ob.length+(r-σ.ob.length)=r by omega];exact hu);unfold plR;rw [List.getD_eq_getElem?_getD,List.getElem?_eq_getElem (by omega:r-σ.ob.length<rs.length)];rw [getElem!_pos rs _ (by omega)] at this;exact this
  ·cases h
 have hmvg:∀r g,plG σ.ob.length obs.length r=some g→∃u,E'.ref[r]?=some (g,u):=by
  intro r g h;unfold plG at h;split at h
  ·rename_i hc
   injection h with h
   subst h;obtain⟨u,k1,_⟩:=hus (r-σ.ob.length) (by omega);exact⟨u,by rw [show r=σ.ob.length+(r-σ.ob.length) by omega];exact k1⟩
  ·cases h
 refine⟨{Ec with ref:=xe6 wr Ec.ref},Lc.trans L2,fun x v hx hv=>xuj (E0:={Ec with ref:=xe6 wr Ec.ref}) (fun b hb=>by show Ec.B b;rw [hB];exact hb) hmvr hmvg hx hv,⟨Rc.df,Rc.n,fun i=>(Rc.tm i).mono L2,by simp [xgp,Rc.len],fun q o1 h1=>?_,fun q1 q2 o1 o2 g1 g2 u1 u2 b h1 h2 h3 h4 h5 h6 h7 h8 h9=>?_,Rc.lt,Rc.fr,Rc.old,Rc.keep⟩⟩
 ·have h1:(xe6 (plO rs σ.ob.length obs) σ.ob)[q]?=some o1:=h1
  rcases cases_ q with ⟨i,hi,rfl⟩|hno
  ·rw [ygx i hi] at h1
   obtain rfl:=Option.some.inj h1;obtain⟨u,k1,k2⟩:=hus i (by omega);have hm:obs[i]!∈obs:=by rw [getElem!_pos obs i (by omega)];exact List.getElem_mem _
   exact⟨u,ref_at i hi u k1,k2.mv (E0:={Ec with ref:=xe6 wr Ec.ref}) (ho _ hm).1 (ho _ hm).2.2 (fun b=>by show E'.B b↔Ec.B b;rw [hB]) hmvr hmvg 1⟩
  ·rw [ob_no q hno] at h1
   obtain⟨v1,m1,m2⟩:=Rc.ob q o1 h1;exact⟨v1,by show(xe6 wr Ec.ref)[q]?=_;rw [ref_no q hno];exact m1,m2.keep L2 (fun _ _=>rfl) (fun _ _ _ h=>h)⟩
 ·have look:∀q o g u,(xe6 (plO rs σ.ob.length obs) σ.ob)[q]?=some o→o.live=true→(xe6 wr Ec.ref)[q]?=some (g,u)→∃q' o' g',(σ.ob++obs)[q']?=some o'∧o'.live=true∧E'.ref[q']?=some (g',u)∧((∃i,i<rs.length∧q=rs[i]!∧q'=σ.ob.length+i)∨((∀p∈rs,p≠q)∧q'=q)):=by
   intro q o g u k1 k2 k3;rcases cases_ q with ⟨i,hi,rfl⟩|hno
   ·obtain⟨v,m1,_⟩:=hus i (by omega)
    rw [ref_at i hi v m1] at k3;injection k3 with k3
    injection k3 with _ k3
    subst k3;have hm:obs[i]!∈obs:=by rw [getElem!_pos obs i (by omega)];exact List.getElem_mem _
    exact⟨_,obs[i]!,0,by rw [List.getElem?_append_right (by omega),Nat.add_sub_cancel_left,List.getElem?_eq_getElem (by omega),getElem!_pos obs i (by omega)],(ho _ hm).1,m1,.inl ⟨i,hi,rfl,rfl⟩⟩
   ·rw [ob_no q hno] at k1
    rw [ref_no q hno,hrr,List.getElem?_take] at k3;split at k3
    ·rename_i hq
     exact⟨q,o,g,by rw [List.getElem?_append_left hq];exact k1,k2,k3,.inr ⟨hno,rfl⟩⟩
    ·cases k3
  obtain⟨p1,r1,e1,a1,a2,a3,a4⟩:=look q1 o1 g1 u1 h2 h4 h6;obtain⟨p2,r2,e2,b1,b2,b3,b4⟩:=look q2 o2 g2 u2 h3 h5 h7;refine R'.sep p1 p2 r1 r2 e1 e2 u1 u2 b (fun e=>h1 ?_) a1 b1 a2 b2 a3 b3 h8 h9;have lt1:q1<σ.ob.length:=by
   have:=(List.getElem?_eq_some_iff.1 (show(xe6 (plO rs σ.ob.length obs) σ.ob)[q1]?=some o1 from h2)).1
   rwa [xgp] at this
  have lt2:q2<σ.ob.length:=by
   have:=(List.getElem?_eq_some_iff.1 (show(xe6 (plO rs σ.ob.length obs) σ.ob)[q2]?=some o2 from h3)).1
   rwa [xgp] at this
  rcases a4 with ⟨i,hi,rfl,rfl⟩|⟨_,rfl⟩<;>rcases b4 with ⟨j,hj,rfl,hj2⟩|⟨_,rfl⟩
  ·have:i=j:=by omega
   rw [this]
  ·omega
  ·omega
  ·exact e
theorem xyc {f:FuncId} {xs:List X} (rs:List Nat) {ys ws:List V} {x0:V} {obs:List Ob} (hF:Fnc P f ys fun y os=>y=x0∧os=obs) (hlen:rs.length=obs.length) (hnd:rs.Nodup) (hn:∀r∈rs,σ.ob[r]?=some resv)
  (hx:xs.map (X.ev σ)=ws) (hok:V.ressOk σ ws∧xfh ws) (hs:Subs (V.lows (V.ress σ [] ws)) ys) (hq:xkd ws x0 obs)
  (ho:∀o∈obs.map (Ob.shift σ.ob.length),o.live=true∧o.g=0∧o.v.now (plG σ.ob.length (obs.map (Ob.shift σ.ob.length)).length)) (hx0:(x0.shift σ.ob.length).now (plG σ.ob.length (obs.map (Ob.shift σ.ob.length)).length)):
  GenL P σ (.call f xs) ((x0.shift σ.ob.length).mv (plR rs σ.ob.length)) (rs++V.idss ws) (plO rs σ.ob.length (obs.map (Ob.shift σ.ob.length))):=by
 subst hx;refine⟨fun p hp=>?_,fun σ' hev hob hlo {cx E a w o} R hc S hS=>?_⟩
 ·unfold plO at hp
  obtain⟨i,hi,e⟩:=List.mem_iff_getElem.1 hp;simp at hi;subst e;simp
 ·obtain⟨aas,hxs,hrun⟩:=xbt hc a
  unfold xf6;rw [hrun w];have hevs:xs.map (X.ev σ)=xs.map (X.ev σ'):=List.map_congr_left fun y hy=>(hev y hy).symm;rw [hevs] at hok hs hob hq;have hres:=xfy (σ:=σ) (σ':=σ') [] (fun q h=>(hob q (List.mem_append.2 (.inr h))).symm);rw [hres.1] at hs;have hok1:=hok.1;rw [hres.2] at hok1;obtain⟨SS,hSS,hargs,hSp⟩:=xj4 R hxs hok1 hok.2 hs;refine(hF w SS _ hSS hargs).mono ?_
  rintro e w' ⟨y,os,v,⟨rfl,rfl⟩,rfl,hres⟩
  obtain⟨E',L,hv,R'⟩:=R.backC hSp hq hres;rw [←hlo] at ho hx0;obtain⟨E'',k1,k2,k3⟩:=R.placeL L R' rs (by simpa using hlen) hnd (fun r h=>by rw [hob r (List.mem_append.2 (.inl h))];exact hn r h) ho;refine⟨v,rfl,hS v w' E'' k1 ?_ ?_⟩
  ·have:=k2 _ v hx0 hv
   rw [hlo] at this;exact this
  ·rw [hlo] at k3
   exact k3
end
attribute [go_sem] plR plG plO xe6 List.zipWith_cons_cons List.zipWith_nil_left List.zipWith_nil_right
end Rdn.Dp
namespace Go.Proofs.YtbgpfigkcpmnfaaGreat
open Go Go.RowKit Rdn Rdn.Dp
abbrev rowN (l:List Cell):Ob:=⟨.row 177,true,0,.arr 2 (l.map xau)⟩
theorem ykc (m:PMem) (h:xfi m):Fnc Tryz.prog 99 [memV false m] (fun x obs=>x=.agg [.own 0 0,.own 1 0]∧obs=[rowN m.cells,⟨.rows false 209,true,0,.arr 3 [xbr 2 m.lines[0]!,xbr 3 m.lines[1]!,xbr 4 m.lines[2]!,xbr 5 m.lines[3]!]⟩,rowN m.lines[0]!.cells,rowN m.lines[1]!.cells,rowN m.lines[2]!.cells,rowN m.lines[3]!.cells]):=by
 refine zcf Tryz.prog 99 fun mz=>?_;obtain⟨cells,lines⟩:=m;obtain⟨k1,k2,k3,k4⟩:=h;obtain⟨x0,x1,x2,x3,rfl⟩:=four k2;have lc:∀x:PLine,∀i:Nat,xdj i x→x.cells.length≤4:=fun x i h=>by
  unfold xdj at h;split at h
  ·rw [h.2];simp
  ·omega
 have l0:=lc _ _ (k4 0 (by omega));have l1:=lc _ _ (k4 1 (by omega));have l2:=lc _ _ (k4 2 (by omega));have l3:=lc _ _ (k4 3 (by omega));clear lc k4 k2;dsimp only at k1 k3;simp only [rowN,xbr,List.getElem!_cons_zero,List.getElem!_cons_succ] at l0 l1 l2 l3⊢;refine zgo mz fun W S=>?_;refine xb8 3 1 209 3 rfl rfl (by decide) rfl ?_;refine xa8 4 rfl ?_;refine xad 5 ?_;refine zsu ?_;refine zs1 ?_;refine zsu ?_;refine zs1 ?_;refine zsu ?_;refine zs1 ?_;refine zsu ?_;refine xcv (xb1 (fu:=[(),(),()]) ?_);refine zev ?_;refine xdh rfl rfl (by simp only [go_sem]) ?_;simp only [go_sem];refine xb1 (fu:=[(),(),()]) ?_;refine zev ?_;refine zsu ?_;refine zs1 ?_;refine zsu ?_;refine zs1 ?_;refine zsu ?_;refine zs1 ?_;refine zsu ?_;refine zs1 ?_;refine zsu ?_;refine xcv (xb1 (fu:=[(),(),()]) ?_);refine zev ?_;refine xdh rfl rfl (by simp only [go_sem]) ?_;simp only [go_sem];refine xb1 (fu:=[(),(),()]) ?_;refine zev ?_;refine zsu ?_;refine zs1 ?_;refine zsu ?_;refine zs1 ?_;refine zsu ?_;refine zs1 ?_;refine zsu ?_;refine zs1 ?_;refine zsu ?_;refine xcv (xb1 (fu:=[(),(),()]) ?_);refine zev ?_;refine xdh rfl rfl (by simp only [go_sem]) ?_;simp only [go_sem];refine xb1 (fu:=[(),(),()]) ?_;refine zev ?_;refine zsu ?_;refine zs1 ?_;refine zsu ?_;refine zs1 ?_;refine zsu ?_;refine zs1 ?_;refine zsu ?_;refine zs1 ?_;refine zsu ?_;refine xcv (xb1 (fu:=[(),(),()]) ?_);refine zev ?_;refine xdh rfl rfl (by simp only [go_sem]) ?_;simp only [go_sem];refine xb1 (fu:=[(),(),()]) ?_;refine zev ?_;refine zsu ?_;refine zs1 ?_;refine zst ?_;refine retN mz [2,4,6,9,12,15] ?_;exact zfn
theorem xvl (m:PMach) {p:PProg} {C:Int} (h:okMach p C m):Fnc Tryz.prog 79 [xd8 false m] (fun x obs=>x=.agg [layV true m.lay,.agg [.own 0 0,.own 1 0],.own 2 0]∧obs=[rowN m.mem.cells,⟨.rows false 209,true,0,.arr 3 [xbr 3 m.mem.lines[0]!,xbr 4 m.mem.lines[1]!,xbr 5 m.mem.lines[2]!,xbr 6 m.mem.lines[3]!]⟩,⟨.rows false 148,true,0,.arr 8 [thrO 7 m.thr[0]!,thrO 8 m.thr[1]!,thrO 9 m.thr[2]!,thrO 10 m.thr[3]!]⟩,rowN m.mem.lines[0]!.cells,rowN m.mem.lines[1]!.cells,rowN m.mem.lines[2]!.cells,rowN m.mem.lines[3]!.cells,rowN m.thr[0]!.regs,rowN m.thr[1]!.regs,rowN m.thr[2]!.regs,rowN m.thr[3]!.regs]):=by
 refine zcf Tryz.prog 79 fun mz=>?_;have f:=ykc m.mem h.mem;have hlb:=h.lay.2.1;have hs4:=h.lay.1.2.2;obtain⟨lay,mem,thr⟩:=m;obtain⟨hp,hl,hm,hn,ht⟩:=h;obtain⟨x0,x1,x2,x3,rfl⟩:=four hn;dsimp only at ht f hlb;have r0:=(ht x0 (by simp)).2.2.2.1;have r1:=(ht x1 (by simp)).2.2.2.1;have r2:=(ht x2 (by simp)).2.2.2.1;have r3:=(ht x3 (by simp)).2.2.2.1;clear ht hn hm hl hp;simp only [rowN,xbr,thrO,List.getElem!_cons_zero,List.getElem!_cons_succ] at f⊢;refine Fnc.intro mz (by simp) fun W S=>?_;simp only [ents,Nat.zero_add,Nat.reduceAdd,Qm,Qc,Ql,QL,Qf,Qs,Qb,Qk,QB,Qn,Qe,Qx,Qt,Qu,Q0,Q1,Qp,Qw,Qq,Qr,Qi];refine zso ?_;refine xsh 6 ?_;simp only [List.replicate,List.cons_append,List.nil_append];refine zst ?_;refine xga (xyc (ws:=[memV false mem]) [2,3,4,5,6,7] f rfl (by decide) (by intro r hr;simp at hr;rcases hr with rfl|rfl|rfl|rfl|rfl|rfl<;>rfl) rfl (by constructor<;>simp [V.ressOk,V.resOk,xfh,rowV]) (by simp only [go_sem];simp only [Subs];repeat(first|exact trivial|refine And.intro (Sub.refl _) ?_|refine And.intro (Sub.nil _) ?_)) (.inl rfl) (by simp only [go_sem];simp;simp only [go_sem]) (by simp only [go_sem])) (by simp) rfl ?_;simp only [go_sem];refine zst ?_;refine xb8 8 2 148 8 rfl rfl (by decide) rfl ?_;refine xa8 9 rfl ?_;refine xad 5 ?_;refine zsu ?_;refine zs1 ?_;refine zsu ?_;refine zs1 ?_;refine zsu ?_;refine zs1 ?_;refine zsu ?_;refine xcv (xb1 (fu:=[(),(),()]) ?_);refine zev ?_;refine xdh rfl rfl (by simp only [go_sem]) ?_;simp only [go_sem];refine xb1 (fu:=[(),(),()]) ?_;refine zev ?_;refine zsu ?_;refine zs1 ?_;refine zsu ?_;refine zs1 ?_;refine zsu ?_;refine zs1 ?_;refine zsu ?_;refine zs1 ?_;refine zsu ?_;refine xcv (xb1 (fu:=[(),(),()]) ?_);refine zev ?_;refine xdh rfl rfl (by simp only [go_sem]) ?_;simp only [go_sem];refine xb1 (fu:=[(),(),()]) ?_;refine zev ?_;refine zsu ?_;refine zs1 ?_;refine zsu ?_;refine zs1 ?_;refine zsu ?_;refine zs1 ?_;refine zsu ?_;refine zs1 ?_;refine zsu ?_;refine xcv (xb1 (fu:=[(),(),()]) ?_);refine zev ?_;refine xdh rfl rfl (by simp only [go_sem]) ?_;simp only [go_sem];refine xb1 (fu:=[(),(),()]) ?_;refine zev ?_;refine zsu ?_;refine zs1 ?_;refine zsu ?_;refine zs1 ?_;refine zsu ?_;refine zs1 ?_;refine zsu ?_;refine zs1 ?_;refine zsu ?_;refine xcv (xb1 (fu:=[(),(),()]) ?_);refine zev ?_;refine xdh rfl rfl (by simp only [go_sem]) ?_;simp only [go_sem];refine xb1 (fu:=[(),(),()]) ?_;refine zev ?_;refine zsu ?_;refine zs1 ?_;refine zst ?_;refine retN mz [2,3,9,4,5,6,7,11,14,17,20] ?_;exact zfn
end Go.Proofs.YtbgpfigkcpmnfaaGreat
namespace Rdn.Dp
open Go Go.RowKit Rdn
section
variable {P:Program} {cx:Cx} {E E':Env} {a:Act} {w:World} {N:Nat} {Q:Exit→Act→World→Prop} {k:List It} {lr:List RO} {n:Nat} {t:List (Nat×V)} {ob:List Ob}
theorem Rel.frzEl (R:Rel cx E ⟨n,t,ob⟩ a w) {r j i e g s r' g' e' s':Nat} {q q' l:List V} (hr:ob[r]?=some ⟨.rows false e,true,g,.arr s q⟩) (hj:q[j]?=some (.agg l)) (hi:l[i]?=some (.own r' g')) (hr':ob[r']?=some ⟨.row e',true,g',.arr s' q'⟩):∃E',Rel cx E' ⟨n,t,(ob.set r' ⟨.row e',false,g',.arr s' q'⟩).set r ⟨.rows false e,true,g,.arr s (q.set j (.agg (l.set i (.sl true s' q'))))⟩⟩ a w:=by
 have hne:r'≠r:=by
  rintro rfl
  rw [hr] at hr';cases hr'
 obtain⟨u,k1,k2⟩:=R.ob r' _ hr';obtain⟨E1,R1⟩:∃E1,Rel cx E1 ((⟨n,t,ob⟩:AS).upd r' Ob.freeze) a w:=⟨_,(R.freeze (r:=r') hr' k1 (fun b hb=>⟨k2.wrRow (e:=e') rfl hb,trivial⟩)).2⟩;have hup:((⟨n,t,ob⟩:AS).upd r' Ob.freeze)=⟨n,t,ob.set r' ⟨.row e',false,g',.arr s' q'⟩⟩:=by simp [AS.upd,hr',Ob.freeze]
 rw [hup] at R1;have rl':r'<ob.length:=(List.getElem?_eq_some_iff.1 hr').1;have hjl:=(List.getElem?_eq_some_iff.1 hj).1;have hjv:q[j]=.agg l:=(List.getElem?_eq_some_iff.1 hj).2;refine⟨_,R1.kind (r:=r) (o:=⟨.rows false e,true,g,.arr s q⟩) (by rw [List.getElem?_set_ne hne];exact hr) rfl rfl fun u h=>?_⟩;unfold OkO at h⊢;obtain⟨_,s1,l1,xs,h1,h3,h4,h5,h6,h7,h8⟩:=h;injection h1 with c1 c2
 subst c1 c2;obtain⟨ys,c,zs,p1,p2,p3,p4⟩:=h7.part hjl;rw [hjv] at p3;have e1:(rowV ⟨n,t,ob.set r' ⟨.row e',false,g',.arr s' q'⟩⟩ r' g').1=s':=by simp [rowV,List.getElem?_set_self rl']
 have e2:(rowV ⟨n,t,ob.set r' ⟨.row e',false,g',.arr s' q'⟩⟩ r' g').2.1=q':=by simp [rowV,List.getElem?_set_self rl']
 have calm:∀cs,RdV E1 w (.own r' g') cs→RdV E1 w (.sl true s' q') cs:=by
  intro cs hcs;have hcs':=hcs;simp only [RdV] at hcs';obtain⟨v,rfl,_⟩:=hcs';have hv:=xln R1 (r:=r') (g:=g') (v:=v) (by simpa only [RdT] using hcs) (by simp [rowV,List.getElem?_set_self rl']) (fun o ho=>by
   have ho:(ob.set r' ⟨.row e',false,g',.arr s' q'⟩)[r']?=some o:=ho;rw [List.getElem?_set_self rl'] at ho;cases ho;rfl)
  rw [e1,e2] at hv;simpa only [RdT] using hv
 have p3':RdV E1 w (.agg (l.set i (.sl true s' q'))) c:=by
  simp only [RdV] at p3⊢;exact xpe calm hi p3
 have hsz:∀(l:List V) (i:Nat),l[i]?=some (.own r' g')→V.sizes (l.set i (.sl true s' q'))=V.sizes l:=by
  intro l
  induction l with
  |nil=>intro i h;simp at h
  |cons a l ih=>
   intro i h;cases i with
   |zero=>simp only [List.getElem?_cons_zero,Option.some.injEq] at h;subst h;simp [V.sizes,V.size]
   |succ i=>simp only [List.getElem?_cons_succ] at h;simp only [List.set_cons_succ,V.sizes,ih i h]
 refine⟨rfl,s,_,xs,rfl,fun x hx=>?_,h4,by simpa using h5,by simpa using h6,?_,h8⟩
 ·rcases List.mem_or_eq_of_mem_set hx with hx|rfl
  ·exact h3 x hx
  ·have:=h3 q[j] (List.getElem_mem hjl)
   rw [hjv] at this;simp only [V.size] at this⊢;rw [hsz l i hi];exact this
 ·rw [p1]
  exact p4 (fun _ _ h=>h) _ _ p3'
theorem xa5 (r j i r':Nat) {e g s g' e' s':Nat} {q q' l:List V} (hr:ob[r]?=some ⟨.rows false e,true,g,.arr s q⟩) (hr':ob[r']?=some ⟨.row e',true,g',.arr s' q'⟩) (hj:q[j]?=some (.agg l)) (hi:l[i]?=some (.own r' g')) (h:Ev P cx N Q k ⟨n,t,(ob.set r' ⟨.row e',false,g',.arr s' q'⟩).set r ⟨.rows false e,true,g,.arr s (q.set j (.agg (l.set i (.sl true s' q'))))⟩⟩):Ev P cx N Q k ⟨n,t,ob⟩:=by
 refine⟨fun hn E a w R=>?_⟩;obtain⟨E',R'⟩:=R.frzEl hr hj hi hr';exact h.h hn E' a w R'
end
end Rdn.Dp
namespace Go.Proofs.YtbgpfigkcpmnfaaGreat
open Go Go.RowKit Rdn Rdn.Dp
theorem xuq (p:PProg) (m:PMach) (C:Int) (h:okMach p C m) (hC:C≤2199023255552) (t:Nat) (ht:t<4):FncI Tryz.prog 101 (obM m) [xbn false p,.ptr 0 0 [] 0,.int .i64 t] (fun x ob=>x=.int .i64 (sOne p m t).2∧ob=obM (sOne p m t).1):=by
 have hi:t=0∨t=1∨t=2∨t=3:=by omega
 rcases hi with rfl|rfl|rfl|rfl
 ·exact yh1 p m C h hC
 ·exact yh2 p m C h hC
 ·exact yh3 p m C h hC
 ·exact yh4 p m C h hC
theorem xb5 {α β:Type} [Inhabited α] (f:α→β) {l:List α} (h:l.length=4):l.map f=[f l[0]!,f l[1]!,f l[2]!,f l[3]!]:=by
 obtain⟨a,b,c,d,rfl⟩:=four h;rfl
abbrev rowF (l:List Cell):Ob:=⟨.rows false 177,true,0,.arr 2 (l.map xau)⟩
abbrev obS (p:PProg) (m g:PMach):List Ob:=[⟨.box false 29,true,0,xbn false p⟩,⟨.box false 39,true,0,xd8 false m⟩,⟨.box false 39,true,0,.agg [.agg [.nilS,.int .u16 0],.agg [.nilS,.nilS],.nilS]⟩,rowF g.mem.cells,⟨.rows false 209,true,0,.arr 3 [xbr 6 g.mem.lines[0]!,xbr 7 g.mem.lines[1]!,xbr 8 g.mem.lines[2]!,xbr 9 g.mem.lines[3]!]⟩,⟨.rows false 148,true,0,.arr 8 [thrO 10 g.thr[0]!,thrO 11 g.thr[1]!,thrO 12 g.thr[2]!,thrO 13 g.thr[3]!]⟩,rowF g.mem.lines[0]!.cells,rowF g.mem.lines[1]!.cells,rowF g.mem.lines[2]!.cells,rowF g.mem.lines[3]!.cells,rowF g.thr[0]!.regs,rowF g.thr[1]!.regs,rowF g.thr[2]!.regs,rowF g.thr[3]!.regs,⟨.box false 39,true,0,.agg [layV false g.lay,.agg [.own 3 0,.own 4 0],.own 5 0]⟩]
theorem yl4 (p:PProg) (m:PMach) (h:okMach p 1099511627776 m) (t:Nat) (ht:t<4) (n:Int) (hn:1≤n∧n≤64) (hs:m.thr[t]!.state=1):Fnc Tryz.prog 80 [xbn false p,xd8 false m,.int .i64 t,.int .i64 n] (fun x obs=>x=.tup [.agg [layV false m.lay,memV true (xf0 p m t n).1.mem,.own 0 0],.int .i64 (xf0 p m t n).2,.int .i64 0]∧obs=[⟨.row 148,true,0,.arr 8 ((xf0 p m t n).1.thr.map (thrV true))⟩]):=by
 refine zcf Tryz.prog 80 fun mz=>?_;have fv:=xuf p m h;have fc:=xvl m h;have hml:=h.n;obtain⟨-,-,-,-,pc0,pc1,cn0,cn1,-⟩:=xcm h ht;have hD:okMach p 1099511627840 m:=h.le (by omega);have hR0:xf0 p m t n=xbk p t (m.thr[t]!.count+n) (muS (m.thr[t]!.count+n) m.thr[t]!) m:=if_neg (not_not_intro hs);generalize hR:xf0 p m t n=R at hR0;clear hR;obtain⟨L,hL⟩:∃L,L=m.lay:=⟨_,rfl⟩;rw [←hL];have hi:t=0∨t=1∨t=2∨t=3:=by omega
 rcases hi with rfl|rfl|rfl|rfl
 ·skip
  refine zgo mz fun W S=>?_;refine zcd (fv) ?_;refine zcx (fc) ?_;refine xa8 3 rfl ?_;refine xa8 6 rfl ?_;refine xa8 7 rfl ?_;refine xa8 8 rfl ?_;refine xa8 9 rfl ?_;refine xa8 10 rfl ?_;refine xa8 11 rfl ?_;refine xa8 12 rfl ?_;refine xa8 13 rfl ?_;refine xa7 false [0,1,2,3,4,5,6,7,8,9,10,11,12,13,14] [2,4,8,11,12] (by simp only [go_sem]) (by simp only [go_sem]) ?_;simp only [go_sem];refine zlk [2,4,8,11,12] (fun q:{g:PMach // okMach p 1099511627840 g∧g.lay=L∧g.thr[0]!.count<m.thr[0]!.count+n∧R=xbk p 0 (m.thr[0]!.count+n) (muS (m.thr[0]!.count+n) g.thr[0]!) g}=>[]) (fun q=>obS p m q.1) (fun q=>muS (m.thr[0]!.count+n) q.1.thr[0]!) (⟨m,hD,hL.symm,by omega,hR0⟩) 15 ?_;intro J hJ
  rintro⟨g,hg,hlay,hlt,hRg⟩
  have f:=xuq p g 1099511627840 hg (by omega) 0 ht;obtain⟨-,-,-,-,gp0,gp1,gc0,gc1,-⟩:=xcm hg ht;obtain⟨k,hk⟩:∃k,muS (m.thr[0]!.count+n) g.thr[0]! =k+1:=⟨muS (m.thr[0]!.count+n) g.thr[0]!-1,by unfold muS;omega⟩;have ok:=xiy hg ht (by omega);have okn:=ok.n;have okl:=ok.mem.2.1;have goes:=xfv hg ht;have stop:=@xe7 p g 0 k (m.thr[0]!.count+n);have end_:=@xfa p g 0 k (m.thr[0]!.count+n);have go:=@xgr p g 0 k (m.thr[0]!.count+n);have hl2:(sOne p g 0).1.lay=g.lay:=by obtain⟨me,y,e,-⟩:=xi8 p g 0;rw [e]
  rw [hk] at hRg;generalize sOne p g 0=Z at f ok okn okl goes stop end_ go hl2;obtain⟨g',s⟩:=Z;dsimp only at f ok okn okl goes stop end_ go hl2;by_cases hst:s=-1;rotate_left
  ·obtain rfl:R=(g',s):=hRg.trans (stop hst)
   simp only [memV,xb5 (xf3 true) okl,xb5 (thrV true) okn];obtain rfl:L=g'.lay:=(hl2.trans hlay).symm;refine zst ?_;refine xc2 14 [3,4,5,6,7,8,9,10,11,12,13] (f) ?_;refine zev ?_;refine zst ?_;refine xa2 6 rfl (xa1 _ _) ?_;refine zls ?_;refine xa5 4 0 2 6 rfl rfl rfl rfl ?_;refine zls ?_;refine xa2 7 rfl (xa1 _ _) ?_;refine zls ?_;refine xa5 4 1 2 7 rfl rfl rfl rfl ?_;refine zls ?_;refine xa2 8 rfl (xa1 _ _) ?_;refine zls ?_;refine xa5 4 2 2 8 rfl rfl rfl rfl ?_;refine zls ?_;refine xa2 9 rfl (xa1 _ _) ?_;refine zls ?_;refine xa5 4 3 2 9 rfl rfl rfl rfl ?_;refine zls ?_;refine xa2 10 rfl (xa1 _ _) ?_;refine zls ?_;refine xa5 5 0 1 10 rfl rfl rfl rfl ?_;refine zls ?_;refine xa2 11 rfl (xa1 _ _) ?_;refine zls ?_;refine xa5 5 1 1 11 rfl rfl rfl rfl ?_;refine zls ?_;refine xa2 12 rfl (xa1 _ _) ?_;refine zls ?_;refine xa5 5 2 1 12 rfl rfl rfl rfl ?_;refine zls ?_;refine xa2 13 rfl (xa1 _ _) ?_;refine zls ?_;refine xa5 5 3 1 13 rfl rfl rfl rfl ?_;refine zls ?_;refine xa2 3 rfl (xa1 _ _) ?_;refine zls ?_;refine xa2 4 rfl (by rfl) ?_;refine zls ?_;refine xa2 5 rfl (by rfl) ?_;refine zls ?_;refine ret mz [5] ?_;exact zfn
  by_cases he:g'.thr[0]!.count=m.thr[0]!.count+n
  ·obtain rfl:R=(g',0):=hRg.trans (end_ hst he)
   simp only [memV,xb5 (xf3 true) okl,xb5 (thrV true) okn];obtain rfl:L=g'.lay:=(hl2.trans hlay).symm;refine zst ?_;refine xc2 14 [3,4,5,6,7,8,9,10,11,12,13] (f) ?_;refine zev ?_;refine zst ?_;refine xa2 6 rfl (xa1 _ _) ?_;refine zls ?_;refine xa5 4 0 2 6 rfl rfl rfl rfl ?_;refine zls ?_;refine xa2 7 rfl (xa1 _ _) ?_;refine zls ?_;refine xa5 4 1 2 7 rfl rfl rfl rfl ?_;refine zls ?_;refine xa2 8 rfl (xa1 _ _) ?_;refine zls ?_;refine xa5 4 2 2 8 rfl rfl rfl rfl ?_;refine zls ?_;refine xa2 9 rfl (xa1 _ _) ?_;refine zls ?_;refine xa5 4 3 2 9 rfl rfl rfl rfl ?_;refine zls ?_;refine xa2 10 rfl (xa1 _ _) ?_;refine zls ?_;refine xa5 5 0 1 10 rfl rfl rfl rfl ?_;refine zls ?_;refine xa2 11 rfl (xa1 _ _) ?_;refine zls ?_;refine xa5 5 1 1 11 rfl rfl rfl rfl ?_;refine zls ?_;refine xa2 12 rfl (xa1 _ _) ?_;refine zls ?_;refine xa5 5 2 1 12 rfl rfl rfl rfl ?_;refine zls ?_;refine xa2 13 rfl (xa1 _ _) ?_;refine zls ?_;refine xa5 5 3 1 13 rfl rfl rfl rfl ?_;refine zls ?_;refine xa2 3 rfl (xa1 _ _) ?_;refine zls ?_;refine xa2 4 rfl (by rfl) ?_;refine zls ?_;refine xa2 5 rfl (by rfl) ?_;refine zls ?_;refine ret mz [5] ?_;exact zfn
  have hmu:=xmk (goes hst) hlt gp0 gp1;have hRn:R=xbk p 0 (m.thr[0]!.count+n) (muS (m.thr[0]!.count+n) g'.thr[0]!) g':=(hRg.trans (go hst he)).trans (xh6 ht (by omega) k g' ok (by omega) (by omega));refine zst ?_;refine xc2 14 [3,4,5,6,7,8,9,10,11,12,13] (f) ?_;refine zev ?_;refine zst ?_;refine xa7 false [0,1,2,3,4,5,6,7,8,9,10,11,12,13,14] [2,4,8,11,12] (by simp only [go_sem]) (by simp only [go_sem]) ?_;simp only [go_sem];exact znx 15 (hJ _ (⟨g',ok,hl2.trans hlay,by omega,hRn⟩) (by dsimp only;omega)) (by refine⟨rfl,by simp,?_,?_,?_,?_⟩<;>first|rfl|exact trivial|(simp only [go_sem];done)|simp)
 ·skip
  refine zgo mz fun W S=>?_;refine zcd (fv) ?_;refine zcx (fc) ?_;refine xa8 3 rfl ?_;refine xa8 6 rfl ?_;refine xa8 7 rfl ?_;refine xa8 8 rfl ?_;refine xa8 9 rfl ?_;refine xa8 10 rfl ?_;refine xa8 11 rfl ?_;refine xa8 12 rfl ?_;refine xa8 13 rfl ?_;refine xa7 false [0,1,2,3,4,5,6,7,8,9,10,11,12,13,14] [2,4,8,11,12] (by simp only [go_sem]) (by simp only [go_sem]) ?_;simp only [go_sem];refine zlk [2,4,8,11,12] (fun q:{g:PMach // okMach p 1099511627840 g∧g.lay=L∧g.thr[1]!.count<m.thr[1]!.count+n∧R=xbk p 1 (m.thr[1]!.count+n) (muS (m.thr[1]!.count+n) g.thr[1]!) g}=>[]) (fun q=>obS p m q.1) (fun q=>muS (m.thr[1]!.count+n) q.1.thr[1]!) (⟨m,hD,hL.symm,by omega,hR0⟩) 15 ?_;intro J hJ
  rintro⟨g,hg,hlay,hlt,hRg⟩
  have f:=xuq p g 1099511627840 hg (by omega) 1 ht;obtain⟨-,-,-,-,gp0,gp1,gc0,gc1,-⟩:=xcm hg ht;obtain⟨k,hk⟩:∃k,muS (m.thr[1]!.count+n) g.thr[1]! =k+1:=⟨muS (m.thr[1]!.count+n) g.thr[1]!-1,by unfold muS;omega⟩;have ok:=xiy hg ht (by omega);have okn:=ok.n;have okl:=ok.mem.2.1;have goes:=xfv hg ht;have stop:=@xe7 p g 1 k (m.thr[1]!.count+n);have end_:=@xfa p g 1 k (m.thr[1]!.count+n);have go:=@xgr p g 1 k (m.thr[1]!.count+n);have hl2:(sOne p g 1).1.lay=g.lay:=by obtain⟨me,y,e,-⟩:=xi8 p g 1;rw [e]
  rw [hk] at hRg;generalize sOne p g 1=Z at f ok okn okl goes stop end_ go hl2;obtain⟨g',s⟩:=Z;dsimp only at f ok okn okl goes stop end_ go hl2;by_cases hst:s=-1;rotate_left
  ·obtain rfl:R=(g',s):=hRg.trans (stop hst)
   simp only [memV,xb5 (xf3 true) okl,xb5 (thrV true) okn];obtain rfl:L=g'.lay:=(hl2.trans hlay).symm;refine zst ?_;refine xc2 14 [3,4,5,6,7,8,9,10,11,12,13] (f) ?_;refine zev ?_;refine zst ?_;refine xa2 6 rfl (xa1 _ _) ?_;refine zls ?_;refine xa5 4 0 2 6 rfl rfl rfl rfl ?_;refine zls ?_;refine xa2 7 rfl (xa1 _ _) ?_;refine zls ?_;refine xa5 4 1 2 7 rfl rfl rfl rfl ?_;refine zls ?_;refine xa2 8 rfl (xa1 _ _) ?_;refine zls ?_;refine xa5 4 2 2 8 rfl rfl rfl rfl ?_;refine zls ?_;refine xa2 9 rfl (xa1 _ _) ?_;refine zls ?_;refine xa5 4 3 2 9 rfl rfl rfl rfl ?_;refine zls ?_;refine xa2 10 rfl (xa1 _ _) ?_;refine zls ?_;refine xa5 5 0 1 10 rfl rfl rfl rfl ?_;refine zls ?_;refine xa2 11 rfl (xa1 _ _) ?_;refine zls ?_;refine xa5 5 1 1 11 rfl rfl rfl rfl ?_;refine zls ?_;refine xa2 12 rfl (xa1 _ _) ?_;refine zls ?_;refine xa5 5 2 1 12 rfl rfl rfl rfl ?_;refine zls ?_;refine xa2 13 rfl (xa1 _ _) ?_;refine zls ?_;refine xa5 5 3 1 13 rfl rfl rfl rfl ?_;refine zls ?_;refine xa2 3 rfl (xa1 _ _) ?_;refine zls ?_;refine xa2 4 rfl (by rfl) ?_;refine zls ?_;refine xa2 5 rfl (by rfl) ?_;refine zls ?_;refine ret mz [5] ?_;exact zfn
  by_cases he:g'.thr[1]!.count=m.thr[1]!.count+n
  ·obtain rfl:R=(g',0):=hRg.trans (end_ hst he)
   simp only [memV,xb5 (xf3 true) okl,xb5 (thrV true) okn];obtain rfl:L=g'.lay:=(hl2.trans hlay).symm;refine zst ?_;refine xc2 14 [3,4,5,6,7,8,9,10,11,12,13] (f) ?_;refine zev ?_;refine zst ?_;refine xa2 6 rfl (xa1 _ _) ?_;refine zls ?_;refine xa5 4 0 2 6 rfl rfl rfl rfl ?_;refine zls ?_;refine xa2 7 rfl (xa1 _ _) ?_;refine zls ?_;refine xa5 4 1 2 7 rfl rfl rfl rfl ?_;refine zls ?_;refine xa2 8 rfl (xa1 _ _) ?_;refine zls ?_;refine xa5 4 2 2 8 rfl rfl rfl rfl ?_;refine zls ?_;refine xa2 9 rfl (xa1 _ _) ?_;refine zls ?_;refine xa5 4 3 2 9 rfl rfl rfl rfl ?_;refine zls ?_;refine xa2 10 rfl (xa1 _ _) ?_;refine zls ?_;refine xa5 5 0 1 10 rfl rfl rfl rfl ?_;refine zls ?_;refine xa2 11 rfl (xa1 _ _) ?_;refine zls ?_;refine xa5 5 1 1 11 rfl rfl rfl rfl ?_;refine zls ?_;refine xa2 12 rfl (xa1 _ _) ?_;refine zls ?_;refine xa5 5 2 1 12 rfl rfl rfl rfl ?_;refine zls ?_;refine xa2 13 rfl (xa1 _ _) ?_;refine zls ?_;refine xa5 5 3 1 13 rfl rfl rfl rfl ?_;refine zls ?_;refine xa2 3 rfl (xa1 _ _) ?_;refine zls ?_;refine xa2 4 rfl (by rfl) ?_;refine zls ?_;refine xa2 5 rfl (by rfl) ?_;refine zls ?_;refine ret mz [5] ?_;exact zfn
  have hmu:=xmk (goes hst) hlt gp0 gp1;have hRn:R=xbk p 1 (m.thr[1]!.count+n) (muS (m.thr[1]!.count+n) g'.thr[1]!) g':=(hRg.trans (go hst he)).trans (xh6 ht (by omega) k g' ok (by omega) (by omega));refine zst ?_;refine xc2 14 [3,4,5,6,7,8,9,10,11,12,13] (f) ?_;refine zev ?_;refine zst ?_;refine xa7 false [0,1,2,3,4,5,6,7,8,9,10,11,12,13,14] [2,4,8,11,12] (by simp only [go_sem]) (by simp only [go_sem]) ?_;simp only [go_sem];exact znx 15 (hJ _ (⟨g',ok,hl2.trans hlay,by omega,hRn⟩) (by dsimp only;omega)) (by refine⟨rfl,by simp,?_,?_,?_,?_⟩<;>first|rfl|exact trivial|(simp only [go_sem];done)|simp)
 ·skip
  refine zgo mz fun W S=>?_;refine zcd (fv) ?_;refine zcx (fc) ?_;refine xa8 3 rfl ?_;refine xa8 6 rfl ?_;refine xa8 7 rfl ?_;refine xa8 8 rfl ?_;refine xa8 9 rfl ?_;refine xa8 10 rfl ?_;refine xa8 11 rfl ?_;refine xa8 12 rfl ?_;refine xa8 13 rfl ?_;refine xa7 false [0,1,2,3,4,5,6,7,8,9,10,11,12,13,14] [2,4,8,11,12] (by simp only [go_sem]) (by simp only [go_sem]) ?_;simp only [go_sem];refine zlk [2,4,8,11,12] (fun q:{g:PMach // okMach p 1099511627840 g∧g.lay=L∧g.thr[2]!.count<m.thr[2]!.count+n∧R=xbk p 2 (m.thr[2]!.count+n) (muS (m.thr[2]!.count+n) g.thr[2]!) g}=>[]) (fun q=>obS p m q.1) (fun q=>muS (m.thr[2]!.count+n) q.1.thr[2]!) (⟨m,hD,hL.symm,by omega,hR0⟩) 15 ?_;intro J hJ
  rintro⟨g,hg,hlay,hlt,hRg⟩
  have f:=xuq p g 1099511627840 hg (by omega) 2 ht;obtain⟨-,-,-,-,gp0,gp1,gc0,gc1,-⟩:=xcm hg ht;obtain⟨k,hk⟩:∃k,muS (m.thr[2]!.count+n) g.thr[2]! =k+1:=⟨muS (m.thr[2]!.count+n) g.thr[2]!-1,by unfold muS;omega⟩;have ok:=xiy hg ht (by omega);have okn:=ok.n;have okl:=ok.mem.2.1;have goes:=xfv hg ht;have stop:=@xe7 p g 2 k (m.thr[2]!.count+n);have end_:=@xfa p g 2 k (m.thr[2]!.count+n);have go:=@xgr p g 2 k (m.thr[2]!.count+n);have hl2:(sOne p g 2).1.lay=g.lay:=by obtain⟨me,y,e,-⟩:=xi8 p g 2;rw [e]
  rw [hk] at hRg;generalize sOne p g 2=Z at f ok okn okl goes stop end_ go hl2;obtain⟨g',s⟩:=Z;dsimp only at f ok okn okl goes stop end_ go hl2;by_cases hst:s=-1;rotate_left
  ·obtain rfl:R=(g',s):=hRg.trans (stop hst)
   simp only [memV,xb5 (xf3 true) okl,xb5 (thrV true) okn];obtain rfl:L=g'.lay:=(hl2.trans hlay).symm;refine zst ?_;refine xc2 14 [3,4,5,6,7,8,9,10,11,12,13] (f) ?_;refine zev ?_;refine zst ?_;refine xa2 6 rfl (xa1 _ _) ?_;refine zls ?_;refine xa5 4 0 2 6 rfl rfl rfl rfl ?_;refine zls ?_;refine xa2 7 rfl (xa1 _ _) ?_;refine zls ?_;refine xa5 4 1 2 7 rfl rfl rfl rfl ?_;refine zls ?_;refine xa2 8 rfl (xa1 _ _) ?_;refine zls ?_;refine xa5 4 2 2 8 rfl rfl rfl rfl ?_;refine zls ?_;refine xa2 9 rfl (xa1 _ _) ?_;refine zls ?_;refine xa5 4 3 2 9 rfl rfl rfl rfl ?_;refine zls ?_;refine xa2 10 rfl (xa1 _ _) ?_;refine zls ?_;refine xa5 5 0 1 10 rfl rfl rfl rfl ?_;refine zls ?_;refine xa2 11 rfl (xa1 _ _) ?_;refine zls ?_;refine xa5 5 1 1 11 rfl rfl rfl rfl ?_;refine zls ?_;refine xa2 12 rfl (xa1 _ _) ?_;refine zls ?_;refine xa5 5 2 1 12 rfl rfl rfl rfl ?_;refine zls ?_;refine xa2 13 rfl (xa1 _ _) ?_;refine zls ?_;refine xa5 5 3 1 13 rfl rfl rfl rfl ?_;refine zls ?_;refine xa2 3 rfl (xa1 _ _) ?_;refine zls ?_;refine xa2 4 rfl (by rfl) ?_;refine zls ?_;refine xa2 5 rfl (by rfl) ?_;refine zls ?_;refine ret mz [5] ?_;exact zfn
  by_cases he:g'.thr[2]!.count=m.thr[2]!.count+n
  ·obtain rfl:R=(g',0):=hRg.trans (end_ hst he)
   simp only [memV,xb5 (xf3 true) okl,xb5 (thrV true) okn];obtain rfl:L=g'.lay:=(hl2.trans hlay).symm;refine zst ?_;refine xc2 14 [3,4,5,6,7,8,9,10,11,12,13] (f) ?_;refine zev ?_;refine zst ?_;refine xa2 6 rfl (xa1 _ _) ?_;refine zls ?_;refine xa5 4 0 2 6 rfl rfl rfl rfl ?_;refine zls ?_;refine xa2 7 rfl (xa1 _ _) ?_;refine zls ?_;refine xa5 4 1 2 7 rfl rfl rfl rfl ?_;refine zls ?_;refine xa2 8 rfl (xa1 _ _) ?_;refine zls ?_;refine xa5 4 2 2 8 rfl rfl rfl rfl ?_;refine zls ?_;refine xa2 9 rfl (xa1 _ _) ?_;refine zls ?_;refine xa5 4 3 2 9 rfl rfl rfl rfl ?_;refine zls ?_;refine xa2 10 rfl (xa1 _ _) ?_;refine zls ?_;refine xa5 5 0 1 10 rfl rfl rfl rfl ?_;refine zls ?_;refine xa2 11 rfl (xa1 _ _) ?_;refine zls ?_;refine xa5 5 1 1 11 rfl rfl rfl rfl ?_;refine zls ?_;refine xa2 12 rfl (xa1 _ _) ?_;refine zls ?_;refine xa5 5 2 1 12 rfl rfl rfl rfl ?_;refine zls ?_;refine xa2 13 rfl (xa1 _ _) ?_;refine zls ?_;refine xa5 5 3 1 13 rfl rfl rfl rfl ?_;refine zls ?_;refine xa2 3 rfl (xa1 _ _) ?_;refine zls ?_;refine xa2 4 rfl (by rfl) ?_;refine zls ?_;refine xa2 5 rfl (by rfl) ?_;refine zls ?_;refine ret mz [5] ?_;exact zfn
  have hmu:=xmk (goes hst) hlt gp0 gp1;have hRn:R=xbk p 2 (m.thr[2]!.count+n) (muS (m.thr[2]!.count+n) g'.thr[2]!) g':=(hRg.trans (go hst he)).trans (xh6 ht (by omega) k g' ok (by omega) (by omega));refine zst ?_;refine xc2 14 [3,4,5,6,7,8,9,10,11,12,13] (f) ?_;refine zev ?_;refine zst ?_;refine xa7 false [0,1,2,3,4,5,6,7,8,9,10,11,12,13,14] [2,4,8,11,12] (by simp only [go_sem]) (by simp only [go_sem]) ?_;simp only [go_sem];exact znx 15 (hJ _ (⟨g',ok,hl2.trans hlay,by omega,hRn⟩) (by dsimp only;omega)) (by refine⟨rfl,by simp,?_,?_,?_,?_⟩<;>first|rfl|exact trivial|(simp only [go_sem];done)|simp)
 ·skip
  refine zgo mz fun W S=>?_;refine zcd (fv) ?_;refine zcx (fc) ?_;refine xa8 3 rfl ?_;refine xa8 6 rfl ?_;refine xa8 7 rfl ?_;refine xa8 8 rfl ?_;refine xa8 9 rfl ?_;refine xa8 10 rfl ?_;refine xa8 11 rfl ?_;refine xa8 12 rfl ?_;refine xa8 13 rfl ?_;refine xa7 false [0,1,2,3,4,5,6,7,8,9,10,11,12,13,14] [2,4,8,11,12] (by simp only [go_sem]) (by simp only [go_sem]) ?_;simp only [go_sem];refine zlk [2,4,8,11,12] (fun q:{g:PMach // okMach p 1099511627840 g∧g.lay=L∧g.thr[3]!.count<m.thr[3]!.count+n∧R=xbk p 3 (m.thr[3]!.count+n) (muS (m.thr[3]!.count+n) g.thr[3]!) g}=>[]) (fun q=>obS p m q.1) (fun q=>muS (m.thr[3]!.count+n) q.1.thr[3]!) (⟨m,hD,hL.symm,by omega,hR0⟩) 15 ?_;intro J hJ
  rintro⟨g,hg,hlay,hlt,hRg⟩
  have f:=xuq p g 1099511627840 hg (by omega) 3 ht;obtain⟨-,-,-,-,gp0,gp1,gc0,gc1,-⟩:=xcm hg ht;obtain⟨k,hk⟩:∃k,muS (m.thr[3]!.count+n) g.thr[3]! =k+1:=⟨muS (m.thr[3]!.count+n) g.thr[3]!-1,by unfold muS;omega⟩;have ok:=xiy hg ht (by omega);have okn:=ok.n;have okl:=ok.mem.2.1;have goes:=xfv hg ht;have stop:=@xe7 p g 3 k (m.thr[3]!.count+n);have end_:=@xfa p g 3 k (m.thr[3]!.count+n);have go:=@xgr p g 3 k (m.thr[3]!.count+n);have hl2:(sOne p g 3).1.lay=g.lay:=by obtain⟨me,y,e,-⟩:=xi8 p g 3;rw [e]
  rw [hk] at hRg;generalize sOne p g 3=Z at f ok okn okl goes stop end_ go hl2;obtain⟨g',s⟩:=Z;dsimp only at f ok okn okl goes stop end_ go hl2;by_cases hst:s=-1;rotate_left
  ·obtain rfl:R=(g',s):=hRg.trans (stop hst)
   simp only [memV,xb5 (xf3 true) okl,xb5 (thrV true) okn];obtain rfl:L=g'.lay:=(hl2.trans hlay).symm;refine zst ?_;refine xc2 14 [3,4,5,6,7,8,9,10,11,12,13] (f) ?_;refine zev ?_;refine zst ?_;refine xa2 6 rfl (xa1 _ _) ?_;refine zls ?_;refine xa5 4 0 2 6 rfl rfl rfl rfl ?_;refine zls ?_;refine xa2 7 rfl (xa1 _ _) ?_;refine zls ?_;refine xa5 4 1 2 7 rfl rfl rfl rfl ?_;refine zls ?_;refine xa2 8 rfl (xa1 _ _) ?_;refine zls ?_;refine xa5 4 2 2 8 rfl rfl rfl rfl ?_;refine zls ?_;refine xa2 9 rfl (xa1 _ _) ?_;refine zls ?_;refine xa5 4 3 2 9 rfl rfl rfl rfl ?_;refine zls ?_;refine xa2 10 rfl (xa1 _ _) ?_;refine zls ?_;refine xa5 5 0 1 10 rfl rfl rfl rfl ?_;refine zls ?_;refine xa2 11 rfl (xa1 _ _) ?_;refine zls ?_;refine xa5 5 1 1 11 rfl rfl rfl rfl ?_;refine zls ?_;refine xa2 12 rfl (xa1 _ _) ?_;refine zls ?_;refine xa5 5 2 1 12 rfl rfl rfl rfl ?_;refine zls ?_;refine xa2 13 rfl (xa1 _ _) ?_;refine zls ?_;refine xa5 5 3 1 13 rfl rfl rfl rfl ?_;refine zls ?_;refine xa2 3 rfl (xa1 _ _) ?_;refine zls ?_;refine xa2 4 rfl (by rfl) ?_;refine zls ?_;refine xa2 5 rfl (by rfl) ?_;refine zls ?_;refine ret mz [5] ?_;exact zfn
  by_cases he:g'.thr[3]!.count=m.thr[3]!.count+n
  ·obtain rfl:R=(g',0):=hRg.trans (end_ hst he)
   simp only [memV,xb5 (xf3 true) okl,xb5 (thrV true) okn];obtain rfl:L=g'.lay:=(hl2.trans hlay).symm;refine zst ?_;refine xc2 14 [3,4,5,6,7,8,9,10,11,12,13] (f) ?_;refine zev ?_;refine zst ?_;refine xa2 6 rfl (xa1 _ _) ?_;refine zls ?_;refine xa5 4 0 2 6 rfl rfl rfl rfl ?_;refine zls ?_;refine xa2 7 rfl (xa1 _ _) ?_;refine zls ?_;refine xa5 4 1 2 7 rfl rfl rfl rfl ?_;refine zls ?_;refine xa2 8 rfl (xa1 _ _) ?_;refine zls ?_;refine xa5 4 2 2 8 rfl rfl rfl rfl ?_;refine zls ?_;refine xa2 9 rfl (xa1 _ _) ?_;refine zls ?_;refine xa5 4 3 2 9 rfl rfl rfl rfl ?_;refine zls ?_;refine xa2 10 rfl (xa1 _ _) ?_;refine zls ?_;refine xa5 5 0 1 10 rfl rfl rfl rfl ?_;refine zls ?_;refine xa2 11 rfl (xa1 _ _) ?_;refine zls ?_;refine xa5 5 1 1 11 rfl rfl rfl rfl ?_;refine zls ?_;refine xa2 12 rfl (xa1 _ _) ?_;refine zls ?_;refine xa5 5 2 1 12 rfl rfl rfl rfl ?_;refine zls ?_;refine xa2 13 rfl (xa1 _ _) ?_;refine zls ?_;refine xa5 5 3 1 13 rfl rfl rfl rfl ?_;refine zls ?_;refine xa2 3 rfl (xa1 _ _) ?_;refine zls ?_;refine xa2 4 rfl (by rfl) ?_;refine zls ?_;refine xa2 5 rfl (by rfl) ?_;refine zls ?_;refine ret mz [5] ?_;exact zfn
  have hmu:=xmk (goes hst) hlt gp0 gp1;have hRn:R=xbk p 3 (m.thr[3]!.count+n) (muS (m.thr[3]!.count+n) g'.thr[3]!) g':=(hRg.trans (go hst he)).trans (xh6 ht (by omega) k g' ok (by omega) (by omega));refine zst ?_;refine xc2 14 [3,4,5,6,7,8,9,10,11,12,13] (f) ?_;refine zev ?_;refine zst ?_;refine xa7 false [0,1,2,3,4,5,6,7,8,9,10,11,12,13,14] [2,4,8,11,12] (by simp only [go_sem]) (by simp only [go_sem]) ?_;simp only [go_sem];exact znx 15 (hJ _ (⟨g',ok,hl2.trans hlay,by omega,hRn⟩) (by dsimp only;omega)) (by refine⟨rfl,by simp,?_,?_,?_,?_⟩<;>first|rfl|exact trivial|(simp only [go_sem];done)|simp)
instance (m:PMach) (t:Nat):Decidable (xod m t):=by unfold xod;exact inferInstance
theorem xty (m:PMach) (hn:m.thr.length=4) (t:Nat) (ht:t<4):Fnc Tryz.prog 52 [xd8 false m,.int .i64 t] (fun x obs=>x=.bool (decide (xod m t))∧obs=[]):=by
 refine zcf Tryz.prog 52 fun mz=>?_;by_cases h1:m.thr[t]!.state=1;rotate_left
 ·rw [decF (fun q=>h1 q.1)]
  refine zgo mz fun W S=>?_;exact zrt mz
 by_cases h2:m.thr[t]!.handler=-1
 ·rw [decF (fun q=>q.2.1 h2)]
  refine zgo mz fun W S=>?_;exact zrt mz
 by_cases h3:m.thr[t]!.saved=-1
 ·rw [decT ⟨h1,h2,h3⟩]
  refine zgo mz fun W S=>?_;exact zrt mz
 ·rw [decF (fun q=>h3 q.2.2)]
  refine zgo mz fun W S=>?_;exact zrt mz
theorem yja (p:PProg) (m:PMach) {C:Int} (h:okMach p C m) (t:Nat) (ht:t<4) (hc:xod m t):Fnc Tryz.prog 53 [xd8 false m,.int .i64 t] (fun x obs=>x=.tup [xd8 true (sigS m t),.bool true]∧obs=[]):=by
 refine zcf Tryz.prog 53 fun mz=>?_;have fc:=xvl m h;have fn:=xty m h.n t ht;rw [decT hc] at fn;have okl:=h.mem.2.1;have okn:=h.n;have okn2:(sigS m t).thr.length=4:=by simp [sigS,PMach.setT,okn]
 simp only [xd8,memV,xb5 (thrV true) okn2,xb5 (xf3 true) (show(sigS m t).mem.lines.length=4 from okl)];obtain⟨lay,mem,thr⟩:=m;obtain⟨x0,x1,x2,x3,rfl⟩:=four okn;have hi:t=0∨t=1∨t=2∨t=3:=by omega
 rcases hi with rfl|rfl|rfl|rfl
 all_goals
  simp only [sigS,PMach.setT,List.getElem!_cons_zero,List.getElem!_cons_succ,List.set_cons_zero,List.set_cons_succ];simp only [rowN,xbr,thrO,List.getElem!_cons_zero,List.getElem!_cons_succ] at fc;refine zgo mz fun W S=>?_;refine zcx (fc) ?_;refine zcd (fn) ?_;refine xa5 3 0 2 5 rfl rfl rfl rfl ?_;refine zls ?_;refine xa5 3 1 2 6 rfl rfl rfl rfl ?_;refine zls ?_;refine xa5 3 2 2 7 rfl rfl rfl rfl ?_;refine zls ?_;refine xa5 3 3 2 8 rfl rfl rfl rfl ?_;refine zls ?_;refine xa5 4 0 1 9 rfl rfl rfl rfl ?_;refine zls ?_;refine xa5 4 1 1 10 rfl rfl rfl rfl ?_;refine zls ?_;refine xa5 4 2 1 11 rfl rfl rfl rfl ?_;refine zls ?_;refine xa5 4 3 1 12 rfl rfl rfl rfl ?_;refine zls ?_;refine xa2 3 rfl (by rfl) ?_;refine zls ?_;refine xa2 4 rfl (by rfl) ?_;refine zls ?_;exact zrt mz
theorem xpi (x:Rdn.Result) (h1:xcw x.value=true) (h2:xba x.data 16=true) (h3:-1≤x.spawn∧x.spawn<4):Fnc Tryz.prog 112 [resV x] (fun y obs=>y=.bool true∧obs=[]):=by
 refine zcf Tryz.prog 112 fun mz=>?_;have f1:=xzs x.value;have f2:=xic x.data 16;rw [h1] at f1;rw [h2] at f2;refine zgo mz fun W S=>?_;refine zcd (f1) ?_;refine zcd (f2) ?_;exact zrt mz
theorem ylb (p:PProg) (m:PMach) (h:okMach p 1099511627776 m) (t:Nat) (ht:t<4) (hs:m.thr[t]!.state=3) (x:Rdn.Result) (h1:xcw x.value=true) (h2:xba x.data 16=true) (h3:-1≤x.spawn∧x.spawn<4) (hr:(rawS m.lay p.sizes x.value).2=0):Fnc Tryz.prog 114 [xbn false p,xd8 false m,.int .i64 t,resV x] (fun y obs=>y=.tup [xd8 true (m.setT t (xnn m.thr[t]! (rawS m.lay p.sizes x.value).1)),.bool true]∧obs=[]):=by
 refine zcf Tryz.prog 114 fun mz=>?_;have fv:=xuf p m h;have fr:=xpi x h1 h2 h3;have fw:=xei m.lay p.sizes x.value h.lay;rw [hr] at fw;generalize (rawS m.lay p.sizes x.value).1=c at fw⊢;have fc:=xvl m h;have okl:=h.mem.2.1;have okn:=h.n;have hrl:=(xcm h ht).2.2.2.1;have okn2:(m.setT t (xnn m.thr[t]! c)).thr.length=4:=by simp [PMach.setT,okn]
 simp only [xd8,memV,xb5 (thrV true) okn2,xb5 (xf3 true) (show(m.setT t (xnn m.thr[t]! c)).mem.lines.length=4 from okl)];clear h hr;obtain⟨lay,mem,thr⟩:=m;obtain⟨x0,x1,x2,x3,rfl⟩:=four okn;have hi:t=0∨t=1∨t=2∨t=3:=by omega
 rcases hi with rfl|rfl|rfl|rfl
 all_goals
  simp only [xnn,setR,PMach.setT,List.getElem!_cons_zero,List.getElem!_cons_succ,List.set_cons_zero,List.set_cons_succ] at hs hrl⊢;simp only [rowN,xbr,thrO,List.getElem!_cons_zero,List.getElem!_cons_succ] at fc;refine zgo mz fun W S=>?_;refine zcd (fv) ?_;refine zcd (fr) ?_;refine zcd (fw) ?_;refine zcx (fc) ?_
  trace_state
  refine xa5 6 0 2 8 rfl rfl rfl rfl ?_;refine zls ?_;refine xa5 6 1 2 9 rfl rfl rfl rfl ?_;refine zls ?_;refine xa5 6 2 2 10 rfl rfl rfl rfl ?_;refine zls ?_;refine xa5 6 3 2 11 rfl rfl rfl rfl ?_;refine zls ?_;refine xa5 7 0 1 12 rfl rfl rfl rfl ?_;refine zls ?_;refine xa5 7 1 1 13 rfl rfl rfl rfl ?_;refine zls ?_;refine xa5 7 2 1 14 rfl rfl rfl rfl ?_;refine zls ?_;refine xa5 7 3 1 15 rfl rfl rfl rfl ?_;refine zls ?_;refine xa2 6 rfl (by rfl) ?_;refine zls ?_;refine xa2 7 rfl (by rfl) ?_;refine zls ?_;refine ret mz [] ?_;(first|(simp only [go_sem];done)|(simp only [go_sem];((try dsimp only);(repeat' (refine And.intro ?_ ?_))<;>first|with_reducible rfl|(simp only [go_sem];done)|(simp only [go_sem];rfl)|(simp only [go_sem,List.map_set];done)|(simp only [List.map_set];(try simp only [go_sem]);first|done|rfl)|(simp only [go_sem];simp [List.map_set];done)|(simp [List.map_set];done)|rfl)))
theorem ln0:SubV (.agg [.int .i64 (-1),.bool false,.nilS]) (xf3 true ⟨-1,false,[]⟩):=SubV.agg ⟨SubV.refl _,SubV.refl _,SubV.nil _ _,trivial⟩
theorem yjo:Fnc Tryz.prog 96 [] (fun x obs=>x=.sl true 3 (emptyL.map (xf3 true))∧obs=[]):=by
 refine zcf Tryz.prog 96 fun mz=>?_;refine zgo mz fun W S=>?_;refine xad 5 ?_;refine zst ?_;refine xef 0 (emptyL.map (xf3 true)) rfl ⟨ln0,ln0,ln0,ln0,trivial⟩ (xa1 _ _) (xaz (f:=xf3 true) (fun _=>rfl) _) ?_;exact zrt mz
theorem ybx {bs:List Int} {ds:List (List Int)} {k:Nat} (hk:k<ds.length) (hl:bs.length=ds.length) (c:List Cell):xmm c (bs.drop k) (ds.drop k)=xmm (ldW c bs[k]! ds[k]!) (bs.drop (k+1)) (ds.drop (k+1)):=by
 rw [List.drop_eq_getElem_cons (show k<bs.length by omega),List.drop_eq_getElem_cons hk];simp only [xmm];simp [hk,show k<bs.length by omega]
theorem xyn {bs:List Int} {ds:List (List Int)} (hl:bs.length=ds.length) (c:List Cell):xmm c (bs.drop ds.length) (ds.drop ds.length)=c:=by
 rw [List.drop_eq_nil_of_le (by omega),List.drop_length];simp only [xmm]
theorem yk4 {d:List Int} {k:Nat} (hk:k<d.length) (c:List Cell) (b:Int):ldW c b (d.drop k)=ldW (c.set b.toNat ⟨c[b.toNat]!.tag,d[k]!⟩) (b+1) (d.drop (k+1)):=by
 rw [List.drop_eq_getElem_cons hk];simp only [ldW];simp [hk]
theorem yit {l:List Cell} {k:Nat} (v:Int):(l.map xau).set k (.agg [.int .u8 l[k]!.tag,.int .u16 v])=(l.set k ⟨l[k]!.tag,v⟩).map xau:=by
 rw [List.map_set]
theorem ykz (n:Nat):(List.replicate n c0).map xau=List.replicate n (.agg [.int .u8 0,.int .u16 0]):=by rw [List.map_replicate];rfl
attribute [-simprocAttr] List.reduceReplicate
attribute [-go_sem] List.replicate_succ
theorem rep2 {α:Type} (a:α):List.replicate 2 a=[a,a]:=rfl
attribute [go_sem] rep2
theorem ykf (p:PProg) (l:PLay) (hp:okProg p) (h:xeh l p.sizes):Fnc Tryz.prog 69 [xbn false p,layV false l] (fun x obs=>x=.tup [memV true (xyo p l),.int .i64 0]∧obs=[]):=by
 refine zcf Tryz.prog 69 fun mz=>?_;have fv:=xyl l p.sizes h;have fe:=yjo;have hb:=h.2.1;have hdl:=hp.dl;have hs4:=hp.sz.2.2;have hbl:l.bases.length=p.data.length:=by omega
 have hcr:(List.replicate 512 c0).map xau=List.replicate 512 (.agg [.int .u8 0,.int .u16 0]):=ykz 512;refine Fnc.intro mz (by simp) fun W S=>?_;simp only [ents,Nat.zero_add,Nat.reduceAdd,Qm,Qc,Ql,QL,Qf,Qs,Qb,Qk,QB,Qn,Qe,Qx,Qt,Qu,Q0,Q1,Qp,Qw,Qq,Qr,Qi];refine zso ?_
 (first|refine xaj (fv) ?_|refine xaa (fv) ?_);refine zev ?_
 refine zso ?_;refine xao (fu:=fu8) xap [0] 2 rfl (by kernel_rfl) ?_;simp only [go_sem]
 repeat(first|refine And.intro (by omega) ?_|refine And.intro rfl ?_|refine xd1 rfl rfl ?_|refine xax ?_|refine xbc (by kernel_rfl) ?_|(simp (disch:=omega) only [xbq,Nat.min_eq_left,Nat.min_eq_right,if_pos,if_neg,xb6,xaq,xbv,xen,xeu,xet,decT,decF,beqT,beqF,bneT,bneF,Int.toNat_natCast];try simp only [go_sem])|(refine xas rfl ?_ ?_;·(simp<;>omega))|(refine xaw rfl ?_ ?_;·(simp<;>omega))|((first|refine xb0 ?_|refine xd2 rfl ?_|refine xgt [0] rfl ?_|refine xew xap rfl (by kernel_rfl) ?_|refine xex xap rfl (by kernel_rfl) ?_|refine xey xap rfl (by kernel_rfl) ?_);simp only [go_sem]))
 refine zcd (fe) ?_;rw [←hcr];refine zlk [2,3,4,6,30,31] (fun q:{q:Nat×List Cell // q.1≤p.data.length∧q.2.length=512∧xmm (List.replicate 512 c0) l.bases p.data=xmm q.2 (l.bases.drop q.1) (p.data.drop q.1)}=>[(32,.int .i64 q.1.1)]) (fun q=>[⟨.box false 29,true,0,xbn false p⟩,⟨.box false 32,true,0,layV false l⟩,⟨.box false 36,true,0,.agg [.nilS,.nilS]⟩,⟨.row 177,true,1,.arr 2 (q.1.2.map xau)⟩,⟨.box false 36,true,1,.agg [.own 3 1,.sl true 3 (emptyL.map (xf3 true))]⟩]) (fun q=>p.data.length-q.1.1) (⟨(0,List.replicate 512 c0),by simp,by simp,rfl⟩) 5 ?_;intro J hJ
 rintro⟨⟨k,B⟩,hk0,hBl,hB⟩
 dsimp only at hk0 hBl hB;by_cases hlt:k<p.data.length
 ·have hdat:=hp.dat k (by omega)
  have hbas:=h.2.2 k (by omega);have hsz:¬(p.sizes[k]!<(p.data[k]!.length:Int)):=by omega
  rw [ybx hlt hbl] at hB;obtain⟨D,hD⟩:∃D,p.data[k]! =D:=⟨_,rfl⟩;have hD2:p.data[k]=D:=by rw [←hD];simp [hlt]
  rw [hD] at hB hdat;have hsz':¬((p.data[k]!.length:Int)>p.sizes[k]!):=by rw [hD];omega
  refine zst ?_;simp only [hD];have hJo:=hJ;refine xay [2,3,4,6,7,30,31,32,46,47] (fun q:{q:Nat×List Cell // q.1≤D.length∧q.2.length=512∧ldW B l.bases[k]! D=ldW q.2 (l.bases[k]!+(q.1:Int)) (D.drop q.1)}=>[(48,.int .i64 q.1.1)]) (fun q=>[⟨.box false 29,true,0,xbn false p⟩,⟨.box false 32,true,0,layV false l⟩,⟨.box false 36,true,0,.agg [.nilS,.nilS]⟩,⟨.row 177,true,1,.arr 2 (q.1.2.map xau)⟩,⟨.box false 36,true,1,.agg [.own 3 1,.sl true 3 (emptyL.map (xf3 true))]⟩]) (fun q=>D.length-q.1.1) (⟨(0,B),by simp,hBl,by simp⟩) 5 (by simp only [go_sem];rfl) ?_ (by first|rfl|(simp only [go_sem];done)|(simp only [go_sem];simp [hD];done)) (by simp) (by first|rfl|(simp only [go_sem];done)) (by first|rfl|(simp only [go_sem];done)) (by first|rfl|(simp only [go_sem];done)|(simp only [hD];(try simp only [go_sem]);first|done|rfl)) ?_
  ·(simp only [go_sem];(try simp [hD]);done)
  intro J hJ
  rintro⟨⟨j,C⟩,hj0,hCl,hC⟩
  dsimp only at hj0 hCl hC;by_cases hlj:j<D.length
  ·rw [yk4 hlj] at hC
   have hsn:(C.set (l.bases[k]!+(j:Int)).toNat ⟨C[(l.bases[k]!+(j:Int)).toNat]!.tag,D[j]!⟩).map xau=(C.map xau).set (l.bases[k]!+(j:Int)).toNat (.agg [.int .u8 C[(l.bases[k]!+(j:Int)).toNat]!.tag,.int .u16 D[j]!]):=(yit _).symm;refine zst ?_;exact znx 5 (hJ _ (⟨(j+1,C.set (l.bases[k]!+(j:Int)).toNat ⟨C[(l.bases[k]!+(j:Int)).toNat]!.tag,D[j]!⟩),hlj,by rw [List.length_set];exact hCl,by rw [hC];congr 1;dsimp only;omega⟩) (by dsimp only;omega)) (by refine⟨rfl,by simp,?_,?_,?_,?_⟩<;>first|rfl|exact trivial|(simp only [go_sem];done)|(simp only [go_sem];(repeat' (refine And.intro ?_ ?_))<;>first|exact trivial|rfl))
  obtain rfl:j=D.length:=by omega
  rw [List.drop_length] at hC;simp only [ldW] at hC;rw [hC] at hB;refine zst ?_;exact znx 5 (hJo _ (⟨(k+1,C),hlt,hCl,hB⟩) (by dsimp only;omega)) (by refine⟨rfl,by simp,?_,?_,?_,?_⟩<;>first|rfl|exact trivial|(simp only [go_sem];done)|(simp only [go_sem];(repeat' (refine And.intro ?_ ?_))<;>first|exact trivial|rfl))
 obtain rfl:k=p.data.length:=by omega
 rw [xyn hbl] at hB;have hml:memV true (xyo p l)=.agg [.sl true 2 (B.map xau),.sl true 3 (emptyL.map (xf3 true))]:=by rw [←hB];rfl
 rw [hml];refine zst ?_;exact zrt mz
end Go.Proofs.YtbgpfigkcpmnfaaGreat
namespace Go.Proofs.YtbgpfigkcpmnfaaGreat
open Go Go.RowKit Rdn Rdn.Dp
theorem yl8:Fnc Tryz.prog 142 [] (fun x obs=>x=thrO 0 thr0∧obs=[rowN (List.replicate 8 c0)]):=by
 refine zcf Tryz.prog 142 fun mz=>?_;have hz:(List.replicate 8 c0).map xau=List.replicate 8 (V.agg [.int .u8 0,.int .u16 0]):=by rw [List.map_replicate];rfl
 simp only [rowN,hz];refine zgo mz fun W S=>?_;refine ret mz [1] ?_;exact zfn
def newT (pc:Int) (c:Cell):PThr:={thr0 with state:=1,regs:=thr0.regs.set 0 c,pc:=pc}
theorem yk7:Fnc Tryz.prog 45 [] (fun x obs=>x=xcf true lk0∧obs=[]):=by
 refine zcf Tryz.prog 45 fun mz=>?_;refine Fnc.intro mz (by simp) fun W S=>?_;simp only [ents,Nat.zero_add,Nat.reduceAdd,Qm,Qc,Ql,QL,Qf,Qs,Qb,Qk,QB,Qn,Qe,Qx,Qt,Qu,Q0,Q1,Qp,Qw,Qq,Qr,Qi];refine zso ?_;refine xao (fu:=fu8) xap [0,1] 3 rfl (by kernel_rfl) ?_;simp only [go_sem]
 repeat(first|refine And.intro (by omega) ?_|refine And.intro rfl ?_|refine xd1 rfl rfl ?_|refine xax ?_|refine xbc (by kernel_rfl) ?_|(simp (disch:=omega) only [xbq,Nat.min_eq_left,Nat.min_eq_right,if_pos,if_neg,xb6,xaq,xbv,xen,xeu,xet,decT,decF,beqT,beqF,bneT,bneF,Int.toNat_natCast];try simp only [go_sem])|(refine xas rfl ?_ ?_;·(simp<;>omega))|(refine xaw rfl ?_ ?_;·(simp<;>omega))|((first|refine xb0 ?_|refine xd2 rfl ?_|refine xgt [0,1] rfl ?_|refine xew xap rfl (by kernel_rfl) ?_|refine xex xap rfl (by kernel_rfl) ?_|refine xey xap rfl (by kernel_rfl) ?_);simp only [go_sem]))
 refine xef 2 [.sl true 1 [],.sl true 1 [],.sl true 1 [],.sl true 1 []] rfl ⟨SubV.nil _ _,SubV.nil _ _,SubV.nil _ _,SubV.nil _ _,trivial⟩ rfl (by intro v hv;simp at hv;subst hv;rfl) ?_;refine xad 5 ?_;refine zst ?_;exact zrt mz
end Go.Proofs.YtbgpfigkcpmnfaaGreat
