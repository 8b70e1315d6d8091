import Derived.Test.YthmjocibdepahaaGreatA17
import Derived.Test.YthmjocibdepahaaGreatA18
import Derived.Test.YthmjocibdepahaaGreatA11
set_option linter.defProp false
set_option linter.unusedSimpArgs false
set_option linter.unusedVariables false
set_option maxHeartbeats 64000000
set_option maxRecDepth 100000
namespace Go.Proofs.YthmjocibdepahaaGreat
open Go Go.RowKit Rdn Rdn.Dp
def yac:=aC 213
abbrev eQ (r:Nat) (x:PThr):V:=.agg [.int .i64 x.state,.own r 0,.int .i64 x.pc,.int .i64 x.count,.int .i64 x.handler,.int .i64 x.saved,.int .i64 x.trap,.int .u16 x.code]
abbrev iJ (m:PMach):List Ob:=[⟨.box true 40,true,0,.agg [dQ false m.lay,.agg [.own 1 0,.own 2 0],.own 3 0]⟩,dN m.mem.cells,⟨.rows true 127,true,0,.arr 3 [bP 4 m.mem.lines[0]!,bP 5 m.mem.lines[1]!,bP 6 m.mem.lines[2]!,bP 7 m.mem.lines[3]!]⟩,⟨.rows true 113,true,0,.arr 8 [eQ 8 m.thr[0]!,eQ 9 m.thr[1]!,eQ 10 m.thr[2]!,eQ 11 m.thr[3]!]⟩,dN m.mem.lines[0]!.cells,dN m.mem.lines[1]!.cells,dN m.mem.lines[2]!.cells,dN m.mem.lines[3]!.cells,dN m.thr[0]!.regs,dN m.thr[1]!.regs,dN m.thr[2]!.regs,dN m.thr[3]!.regs]
abbrev xrd (m:PMem):List Ob:=[dN m.cells,⟨.rows true 127,true,0,.arr 3 [bP 3 m.lines[0]!,bP 4 m.lines[1]!,bP 5 m.lines[2]!,bP 6 m.lines[3]!]⟩,dN m.lines[0]!.cells,dN m.lines[1]!.cells,dN m.lines[2]!.cells,dN m.lines[3]!.cells]
theorem ywu (m:PMach) (hn:m.thr.length=4) (t:Nat) (ht:t<4) (why:Int):FncI Tryz.prog 213 (iJ m) [.ptr 3 0 [t] (8*t),.int .i64 why] (fun x ob=>x=.int .i64 2∧ob=iJ (m.setT t (qH m.thr[t]! why))):=by
 obtain⟨lay,mem,thr⟩:=m;obtain⟨x0,x1,x2,x3,rfl⟩:=gQ hn;have hi:t=0∨t=1∨t=2∨t=3:=ω;rcases hi with rfl|rfl|rfl|rfl
 all_goals
  simp only [iJ,dN,eQ,bP,PMach.setT,qH,List.getElem!_cons_zero,List.getElem!_cons_succ,List.set_cons_zero,List.set_cons_succ];refine dG yac fun W lent S=>?_;refine aA ?_;refine gZ 12 yac ?_;exact fP
end Go.Proofs.YthmjocibdepahaaGreat
namespace Rdn.Dp
open Go Go.RowKit Rdn
section
variable {P:Program} {cx:Cx} {E E' E0:Env} {σ:AS} {a:Act} {w w':World}
instance :Inhabited Ob:=⟨kP⟩
theorem OkO.mv {ρ:Nat→Nat×Nat} {γ:Nat→Option Nat} {o:Ob} {u:Value} (h:OkO cx E w o u) (hl:o.live=true) (hn:o.v.now γ) (hBB:∀b,E.B b↔E0.B b)
  (hr:∀r g u,γ r=some g→E.ref[r]?=some (g,u)→E0.ref[(ρ r).1]?=some ((ρ r).2,u)) (hγ:∀r g,γ r=some g→∃u,E.ref[r]?=some (g,u)) (g':Nat):OkO cx E0 w ⟨o.k,true,g',o.v.mv ρ⟩ u:=by
 have hB:∀b,E.B b→E0.B b:=fun b hb=>(hBB b).1 hb;have hnB:=fun b hb=>h.live_B (b:=b) hl hb;have hnB0:∀b,aP u=some b→¬E0.B b:=fun b hb h2=>hnB b hb ((hBB b).2 h2);obtain⟨kk,lv,g,v⟩:=o;dsimp only at hl hn hnB;subst hl;cases kk with
 |box q T=>
  unfold OkO at h⊢;obtain⟨b,cs,rfl,m2,m3,m4,m5⟩:=h;exact⟨b,cs,rfl,m2,xb4 hB hr hγ hn m3,m4,by rw [if_pos rfl];exact hnB0 b rfl⟩
 |row e=>
  unfold OkO at h⊢;obtain⟨s,l,ys,m1,m2,m3,m4,m5,m6,m7,m8⟩:=h;dsimp only at m1 m8;subst m1;have hlen:(V.mvs ρ l).length=l.length:=by rw [rH,List.length_map]
  have hn':V.nows γ l:=by simpa only [V.now] using hn
  exact⟨s,_,ys,rfl,by rw [V.mvs_pure _ _ m2,V.lows_pures];exact m2,xag m3,m4,ω,by rw [hlen];exact m6,yR hB hr hγ hn' m7,fun b hb=>by rw [if_pos rfl];exact hnB0 b hb⟩
 |rows q e=>
  unfold OkO at h⊢;obtain⟨m0,s,l,ys,m1,m3,m4,m5,m6,m7,m8⟩:=h;dsimp only at m1 m8;subst m1;have hlen:(V.mvs ρ l).length=l.length:=by rw [rH,List.length_map]
  have hn':V.nows γ l:=by simpa only [V.now] using hn
  exact⟨rfl,s,_,ys,rfl,xag m3,m4,ω,by rw [hlen];exact m6,yR hB hr hγ hn' m7,fun b hb=>⟨hnB0 b hb,(m8 b hb).2⟩⟩
def nN {α:Type} (ws:List (Nat×α)) (l:List α):List α:=ws.foldr (fun p l=>l.set p.1 p.2) l
theorem xhf {α:Type}:∀(ws:List (Nat×α)) (l:List α),(nN ws l).length=l.length
 |[],_=>rfl
 |p::ws,l=>by
  have ih:=xhf ws l;unfold nN at ih⊢;simp [ih]
theorem xsm {α:Type} {q:Nat}:∀{ws:List (Nat×α)} {l:List α},(∀p∈ws,p.1≠q)→(nN ws l)[q]?=l[q]?
 |[],_,_=>rfl
 |p::ws,l,h=>by
  have ih:=xsm (q:=q) (ws:=ws) (l:=l) fun r hr=>h r (by simp [hr]);unfold nN at ih⊢;rw [List.foldr_cons,List.getElem?_set_ne (h p ξ),ih]
theorem xsl {α:Type} {q:Nat} {x:α}:∀{ws:List (Nat×α)} {l:List α},(ws.map (·.1)).Nodup→(q,x)∈ws→q<l.length→(nN ws l)[q]?=some x
 |p::ws,l,hd,hm,hl=>by
  have hd':=List.nodup_cons.1 (by simpa using hd:(p.1::ws.map (·.1)).Nodup);have hlen:(nN ws l).length=l.length:=xhf ws l;rcases List.mem_cons.1 hm with rfl|hm
  ·show((nN ws l).set q x)[q]?=_
   rw [List.getElem?_set_self (by rw [hlen];exact hl)]
  ·have hne:p.1≠q:=fun e=>hd'.1 (by rw [e];exact List.mem_map.2 ⟨_,hm,rfl⟩)
   show((nN ws l).set p.1 p.2)[q]?=_;rw [List.getElem?_set_ne hne];exact xsl hd'.2 hm hl
def plR (rs:List Nat) (n:Nat) (q:Nat):Nat×Nat:=(rs.getD (q-n) 0,1)
def plG (n m:Nat) (q:Nat):Option Nat:=if n≤q∧q<n+m then some 0 else none
def wM (rs:List Nat) (n:Nat) (obs:List Ob):List (Nat×Ob):=List.zipWith (fun r o=>(r,⟨o.k,true,1,o.v.mv (plR rs n)⟩)) rs obs
theorem Rel.placeL (R:Rel cx E σ a w) (L:Leads E w E' w') {obs:List Ob} (R':Rel cx E' {σ with ob:=σ.ob++obs} a w') (rs:List Nat) (hlen:rs.length=obs.length) (hnd:rs.Nodup) (hr:∀r∈rs,σ.ob[r]?=some kP) (ho:∀o∈obs,o.live=true∧o.g=0∧o.v.now (plG σ.ob.length obs.length)):
  ∃E'',Leads E w E'' w'∧(∀x v,x.now (plG σ.ob.length obs.length)→RdT E' w' x v→RdT E'' w' (x.mv (plR rs σ.ob.length)) v)∧Rel cx E'' {σ with ob:=nN (wM rs σ.ob.length obs) σ.ob} a w':=by
 have hEl:E'.ref.length=σ.ob.length+obs.length:=by rw [R'.len];simp
 have hE:E.ref.length=σ.ob.length:=R.len;have Rc:=R'.cut σ.ob.length ξ (fun i=>by have:=(R.tm i).scp;rwa [R.len] at this) (fun o' ho'=>by
  have ho':o'∈σ.ob:=by simpa using ho'
  obtain⟨j,hj,e⟩:=List.mem_iff_getElem.1 ho';obtain⟨u',_,k⟩:=R.ob j o' (by rw [List.getElem?_eq_getElem hj,e]);have:=k.scp
  rwa [R.len] at this)
 have Rc:Rel cx {E' with ref:=E'.ref.take σ.ob.length} σ a w':=by
  have e:(σ.ob++obs).take σ.ob.length=σ.ob:=by simp
  simp only [e] at Rc;exact Rc
 have Lc:Leads E w {E' with ref:=E'.ref.take σ.ob.length} w':=⟨L.b,L.f,by simp only [List.length_take,R.len];omega,fun q g v hq h=>by
  refine L.ref q g v hq ?_;rw [List.getElem?_take] at h;split at h
  ·exact h
  ·cases h⟩
 have hus:∀i,i<obs.length→∃u,E'.ref[σ.ob.length+i]?=some (0,u)∧OkO cx E' w' obs[i]! u:=by
  intro i hi;have h1:(σ.ob++obs)[σ.ob.length+i]?=some obs[i]!:=by
   rw [List.getElem?_append_right ω,Nat.add_sub_cancel_left,List.getElem?_eq_getElem hi,getElem!_pos obs i hi]
  obtain⟨u,m1,m2⟩:=R'.ob _ _ h1;have hm:obs[i]!∈obs:=by rw [getElem!_pos obs i hi];exact List.getElem_mem hi
  rw [(ho _ hm).2.1] at m1;exact⟨u,m1,m2⟩
 obtain⟨wr,hwr⟩:∃wr:List (Nat×(Nat×Value)),wr=List.zipWith (fun r i=>(r,(1,(E'.ref.getD (σ.ob.length+i) (0,undef)).2))) rs (List.range obs.length):=⟨_,rfl⟩;have wr_keys:wr.map (·.1)=rs:=by
  rw [hwr,List.map_zipWith];refine List.ext_getElem (by simp [hlen]) (fun i h1 h2=>by simp)
 have wo_keys:(wM rs σ.ob.length obs).map (·.1)=rs:=by
  unfold wM;rw [List.map_zipWith];refine List.ext_getElem (by simp [hlen]) (fun i h1 h2=>by simp)
 have wr_at:∀i,i<rs.length→∀u,E'.ref[σ.ob.length+i]?=some (0,u)→(rs[i]!,(1,u))∈wr:=by
  intro i hi u hu;rw [hwr];refine List.mem_iff_getElem.2 ⟨i,by simp;omega,?_⟩;simp [getElem!_pos rs i hi,List.getD_eq_getElem?_getD,hu]
 have wo_at:∀i,i<rs.length→(rs[i]!,(⟨obs[i]!.k,true,1,obs[i]!.v.mv (plR rs σ.ob.length)⟩:Ob))∈wM rs σ.ob.length obs:=by
  intro i hi;refine List.mem_iff_getElem.2 ⟨i,by unfold wM;simp;omega,?_⟩;unfold wM;simp [getElem!_pos rs i hi,getElem!_pos obs i ω]
 have rs_lt:∀i,i<rs.length→rs[i]!<σ.ob.length:=by
  intro i hi;have hm:rs[i]!∈rs:=by rw [getElem!_pos rs i hi];exact List.getElem_mem hi
  exact(List.getElem?_eq_some_iff.1 (hr _ hm)).1
 have cases_:∀q,(∃i,i<rs.length∧q=rs[i]!)∨(∀p∈rs,p≠q):=by
  intro q;by_cases h:q∈rs
  ·obtain⟨i,hi,e⟩:=List.mem_iff_getElem.1 h
   exact .inl ⟨i,hi,by rw [getElem!_pos rs i hi,e]⟩
  ·exact .inr fun p hp e=>h (e▸hp)
 generalize hEc:({E' with ref:=E'.ref.take σ.ob.length}:Env)=Ec at *;have hB:Ec.B=E'.B:=by rw [←hEc]
 have hF:Ec.F=E'.F:=by rw [←hEc]
 have hrr:Ec.ref=E'.ref.take σ.ob.length:=by rw [←hEc]
 have hEcl:Ec.ref.length=σ.ob.length:=Rc.len;have ref_at:∀i,i<rs.length→∀u,E'.ref[σ.ob.length+i]?=some (0,u)→(nN wr Ec.ref)[rs[i]!]?=some (1,u):=fun i hi u hu=>
  xsl (by rw [wr_keys];exact hnd) (wr_at i hi u hu) (by rw [hEcl];exact rs_lt i hi)
 have ref_no:∀q,(∀p∈rs,p≠q)→(nN wr Ec.ref)[q]?=Ec.ref[q]?:=fun q h=>xsm fun p hp=>h p.1 (by rw [←wr_keys];exact List.mem_map.2 ⟨p,hp,rfl⟩);have xrg:∀i,i<rs.length→(nN (wM rs σ.ob.length obs) σ.ob)[rs[i]!]?=some ⟨obs[i]!.k,true,1,obs[i]!.v.mv (plR rs σ.ob.length)⟩:=fun i hi=>
  xsl (by rw [wo_keys];exact hnd) (wo_at i hi) (rs_lt i hi)
 have ob_no:∀q,(∀p∈rs,p≠q)→(nN (wM rs σ.ob.length obs) σ.ob)[q]?=σ.ob[q]?:=fun q h=>xsm fun p hp=>h p.1 (by rw [←wo_keys];exact List.mem_map.2 ⟨p,hp,rfl⟩);have L2:Leads Ec w' {Ec with ref:=nN wr Ec.ref} w':=by
  refine⟨fun b hb=>⟨hb,rfl⟩,fun _ h=>h,by simp [xhf],fun q g v hq h=>?_⟩;rcases cases_ q with ⟨i,hi,rfl⟩|hno
  ·obtain⟨u,k1,_⟩:=hus i ω
   have h:(nN wr Ec.ref)[rs[i]!]?=some (g,v):=h;rw [ref_at i hi u k1] at h;injection h with h
   injection h with h1 h2
   subst h1;have hm:rs[i]!∈rs:=by rw [getElem!_pos rs i hi];exact List.getElem_mem hi
   obtain⟨u0,k2,_⟩:=Rc.ob _ _ (hr _ hm);exact⟨0,u0,k2,ω,fun e=>by omega⟩
  ·have h:(nN wr Ec.ref)[q]?=some (g,v):=h
   rw [ref_no q hno] at h;exact⟨g,v,h,Nat.le_refl _,fun _=>rfl⟩
 have hmvr:∀r g u,plG σ.ob.length obs.length r=some g→E'.ref[r]?=some (g,u)→(nN wr Ec.ref)[(plR rs σ.ob.length r).1]?=some ((plR rs σ.ob.length r).2,u):=by
  intro r g u h hu;unfold plG at h;split at h
  ·rename_i hc
   injection h with h
   subst h;have:=ref_at (r-σ.ob.length) ω u (by rw [show σ.ob.length+(r-σ.ob.length)=r by omega];exact hu);unfold plR;rw [List.getD_eq_getElem?_getD,List.getElem?_eq_getElem (by omega:r-σ.ob.length<rs.length)];rw [getElem!_pos rs _ ω] at this;exact this
  ·cases h
 have hmvg:∀r g,plG σ.ob.length obs.length r=some g→∃u,E'.ref[r]?=some (g,u):=by
  intro r g h;unfold plG at h;split at h
  ·rename_i hc
   injection h with h
   subst h;obtain⟨u,k1,_⟩:=hus (r-σ.ob.length) ω;exact⟨u,by rw [show r=σ.ob.length+(r-σ.ob.length) by omega];exact k1⟩
  ·cases h
 refine⟨{Ec with ref:=nN wr Ec.ref},Lc.trans L2,fun x v hx hv=>xmb (E0:={Ec with ref:=nN wr Ec.ref}) (fun b hb=>by show Ec.B b;rw [hB];exact hb) hmvr hmvg hx hv,⟨Rc.df,Rc.n,fun i=>(Rc.tm i).mono L2,by simp [xhf,Rc.len],fun q o1 h1=>?_,fun q1 q2 o1 o2 g1 g2 u1 u2 b h1 h2 h3 h4 h5 h6 h7 h8 h9=>?_,Rc.lt,Rc.fr,Rc.old,Rc.keep⟩⟩
 ·have h1:(nN (wM rs σ.ob.length obs) σ.ob)[q]?=some o1:=h1
  rcases cases_ q with ⟨i,hi,rfl⟩|hno
  ·rw [xrg i hi] at h1
   obtain rfl:=Option.some.inj h1;obtain⟨u,k1,k2⟩:=hus i ω;have hm:obs[i]!∈obs:=by rw [getElem!_pos obs i ω];exact List.getElem_mem _
   exact⟨u,ref_at i hi u k1,k2.mv (E0:={Ec with ref:=nN wr Ec.ref}) (ho _ hm).1 (ho _ hm).2.2 (fun b=>by show E'.B b↔Ec.B b;rw [hB]) hmvr hmvg 1⟩
  ·rw [ob_no q hno] at h1
   obtain⟨v1,m1,m2⟩:=Rc.ob q o1 h1;exact⟨v1,by show(nN wr Ec.ref)[q]?=_;rw [ref_no q hno];exact m1,m2.keep L2 (fun _ _=>rfl) (fun _ _ _ h=>h)⟩
 ·have look:∀q o g u,(nN (wM rs σ.ob.length obs) σ.ob)[q]?=some o→o.live=true→(nN wr Ec.ref)[q]?=some (g,u)→∃q' o' g',(σ.ob++obs)[q']?=some o'∧o'.live=true∧E'.ref[q']?=some (g',u)∧((∃i,i<rs.length∧q=rs[i]!∧q'=σ.ob.length+i)∨((∀p∈rs,p≠q)∧q'=q)):=by
   intro q o g u k1 k2 k3;rcases cases_ q with ⟨i,hi,rfl⟩|hno
   ·obtain⟨v,m1,_⟩:=hus i ω
    rw [ref_at i hi v m1] at k3;injection k3 with k3
    injection k3 with _ k3
    subst k3;have hm:obs[i]!∈obs:=by rw [getElem!_pos obs i ω];exact List.getElem_mem _
    exact⟨_,obs[i]!,0,by rw [List.getElem?_append_right ω,Nat.add_sub_cancel_left,List.getElem?_eq_getElem ω,getElem!_pos obs i ω],(ho _ hm).1,m1,.inl ⟨i,hi,rfl,rfl⟩⟩
   ·rw [ob_no q hno] at k1
    rw [ref_no q hno,hrr,List.getElem?_take] at k3;split at k3
    ·rename_i hq
     exact⟨q,o,g,by rw [List.getElem?_append_left hq];exact k1,k2,k3,.inr ⟨hno,rfl⟩⟩
    ·cases k3
  obtain⟨p1,r1,e1,a1,a2,a3,a4⟩:=look q1 o1 g1 u1 h2 h4 h6;obtain⟨p2,r2,e2,b1,b2,b3,b4⟩:=look q2 o2 g2 u2 h3 h5 h7;refine R'.sep p1 p2 r1 r2 e1 e2 u1 u2 b (fun e=>h1 ?_) a1 b1 a2 b2 a3 b3 h8 h9;have lt1:q1<σ.ob.length:=by
   have:=(List.getElem?_eq_some_iff.1 (show(nN (wM rs σ.ob.length obs) σ.ob)[q1]?=some o1 from h2)).1
   rwa [xhf] at this
  have lt2:q2<σ.ob.length:=by
   have:=(List.getElem?_eq_some_iff.1 (show(nN (wM rs σ.ob.length obs) σ.ob)[q2]?=some o2 from h3)).1
   rwa [xhf] at this
  rcases a4 with ⟨i,hi,rfl,rfl⟩|⟨_,rfl⟩<;>rcases b4 with ⟨j,hj,rfl,hj2⟩|⟨_,rfl⟩
  ·have:i=j:=ω
   rw [this]
  ·omega
  ·omega
  ·exact e
theorem xwu {f:FuncId} {xs:List X} (rs:List Nat) {ys ws:List V} {x0:V} {obs:List Ob} (hF:Fnc P f ys fun y os=>y=x0∧os=obs) (hlen:rs.length=obs.length) (hnd:rs.Nodup) (hn:∀r∈rs,σ.ob[r]?=some kP)
  (hx:xs.map (X.ev σ)=ws) (hok:V.ressOk σ ws∧pK ws) (hs:Subs (V.lows (V.ress σ [] ws)) ys) (hq:yS ws x0 obs)
  (ho:∀o∈obs.map (Ob.shift σ.ob.length),o.live=true∧o.g=0∧o.v.now (plG σ.ob.length (obs.map (Ob.shift σ.ob.length)).length)) (hx0:(x0.shift σ.ob.length).now (plG σ.ob.length (obs.map (Ob.shift σ.ob.length)).length)):
  GenL P σ (.call f xs) ((x0.shift σ.ob.length).mv (plR rs σ.ob.length)) (rs++V.idss ws) (wM rs σ.ob.length (obs.map (Ob.shift σ.ob.length))):=by
 subst hx;refine⟨fun p hp=>?_,fun σ' hev hob hlo {cx E a w o} R hc S hS=>?_⟩
 ·unfold wM at hp
  obtain⟨i,hi,e⟩:=List.mem_iff_getElem.1 hp;simp at hi;subst e;simp
 ·obtain⟨aas,hxs,hrun⟩:=wC hc a
  unfold pO;rw [hrun w];have hevs:xs.map (X.ev σ)=xs.map (X.ev σ'):=List.map_congr_left fun y hy=>(hev y hy).symm;rw [hevs] at hok hs hob hq;have hres:=xee (σ:=σ) (σ':=σ') [] (fun q h=>(hob q (List.mem_append.2 (.inr h))).symm);rw [hres.1] at hs;have hok1:=hok.1;rw [hres.2] at hok1;obtain⟨SS,hSS,hargs,hSp⟩:=xk8 R hxs hok1 hok.2 hs;refine(hF w SS _ hSS hargs).mono ?_
  rintro e w' ⟨y,os,v,⟨rfl,rfl⟩,rfl,hres⟩
  obtain⟨E',L,hv,R'⟩:=R.backC hSp hq hres;rw [←hlo] at ho hx0;obtain⟨E'',k1,k2,k3⟩:=R.placeL L R' rs (by simpa using hlen) hnd (fun r h=>by rw [hob r (List.mem_append.2 (.inl h))];exact hn r h) ho;refine⟨v,rfl,hS v w' E'' k1 ?_ ?_⟩
  ·have:=k2 _ v hx0 hv
   rw [hlo] at this;exact this
  ·rw [hlo] at k3
   exact k3
end
attribute [go_sem] plR plG wM nN List.zipWith_cons_cons List.zipWith_nil_left List.zipWith_nil_right
end Rdn.Dp
namespace Rdn.Dp
open Go Go.RowKit Rdn
section
variable {P:Program} {cx:Cx} {E E':Env} {a:Act} {w:World} {N:Nat} {Q:Exit→Act→World→Prop} {k:List It} {lr:List RO} {n:Nat} {t:List (Nat×V)} {ob:List Ob}
theorem Rel.frzEl (R:Rel cx E ⟨n,t,ob⟩ a w) {r j i e g s r' g' e' s':Nat} {q q' l:List V} (hr:ob[r]?=some ⟨.rows false e,true,g,.arr s q⟩) (hj:q[j]?=some (.agg l)) (hi:l[i]?=some (.own r' g')) (hr':ob[r']?=some ⟨.row e',true,g',.arr s' q'⟩):∃E',Rel cx E' ⟨n,t,(ob.set r' ⟨.row e',false,g',.arr s' q'⟩).set r ⟨.rows false e,true,g,.arr s (q.set j (.agg (l.set i (.sl true s' q'))))⟩⟩ a w:=by
 have hne:r'≠r:=by
  rintro rfl
  rw [hr] at hr';cases hr'
 obtain⟨u,k1,k2⟩:=R.ob r' _ hr';obtain⟨E1,R1⟩:∃E1,Rel cx E1 ((⟨n,t,ob⟩:AS).upd r' Ob.freeze) a w:=⟨_,(R.freeze (r:=r') hr' k1 (fun b hb=>⟨k2.wrRow (e:=e') rfl hb,trivial⟩)).2⟩;have hup:((⟨n,t,ob⟩:AS).upd r' Ob.freeze)=⟨n,t,ob.set r' ⟨.row e',false,g',.arr s' q'⟩⟩:=by simp [AS.upd,hr',Ob.freeze]
 rw [hup] at R1;have rl':r'<ob.length:=(List.getElem?_eq_some_iff.1 hr').1;have hjl:=(List.getElem?_eq_some_iff.1 hj).1;have hjv:q[j]=.agg l:=(List.getElem?_eq_some_iff.1 hj).2;refine⟨_,R1.kind (r:=r) (o:=⟨.rows false e,true,g,.arr s q⟩) (by rw [List.getElem?_set_ne hne];exact hr) rfl rfl fun u h=>?_⟩;unfold OkO at h⊢;obtain⟨_,s1,l1,xs,h1,h3,h4,h5,h6,h7,h8⟩:=h;injection h1 with c1 c2
 subst c1 c2;obtain⟨ys,c,zs,p1,p2,p3,p4⟩:=h7.part hjl;rw [hjv] at p3;have e1:(bT ⟨n,t,ob.set r' ⟨.row e',false,g',.arr s' q'⟩⟩ r' g').1=s':=by simp [bT,List.getElem?_set_self rl']
 have e2:(bT ⟨n,t,ob.set r' ⟨.row e',false,g',.arr s' q'⟩⟩ r' g').2.1=q':=by simp [bT,List.getElem?_set_self rl']
 have calm:∀cs,RdV E1 w (.own r' g') cs→RdV E1 w (.sl true s' q') cs:=by
  intro cs hcs;have hcs':=hcs;simp only [RdV] at hcs';obtain⟨v,rfl,_⟩:=hcs';have hv:=xmo R1 (r:=r') (g:=g') (v:=v) (by simpa only [RdT] using hcs) (by simp [bT,List.getElem?_set_self rl']) (fun o ho=>by
   have ho:(ob.set r' ⟨.row e',false,g',.arr s' q'⟩)[r']?=some o:=ho;rw [List.getElem?_set_self rl'] at ho;cases ho;rfl)
  rw [e1,e2] at hv;simpa only [RdT] using hv
 have p3':RdV E1 w (.agg (l.set i (.sl true s' q'))) c:=by
  simp only [RdV] at p3⊢;exact xmy calm hi p3
 have hsz:∀(l:List V) (i:Nat),l[i]?=some (.own r' g')→V.sizes (l.set i (.sl true s' q'))=V.sizes l:=by
  intro l
  induction l with
  |nil=>intro i h;simp at h
  |cons a l ih=>
   intro i h;cases i with
   |zero=>simp only [List.getElem?_cons_zero,Option.some.injEq] at h;subst h;simp [V.sizes,V.size]
   |succ i=>simp only [List.getElem?_cons_succ] at h;simp only [List.set_cons_succ,V.sizes,ih i h]
 refine⟨rfl,s,_,xs,rfl,fun x hx=>?_,h4,by simpa using h5,by simpa using h6,?_,h8⟩
 ·rcases List.mem_or_eq_of_mem_set hx with hx|rfl
  ·exact h3 x hx
  ·have:=h3 q[j] (List.getElem_mem hjl)
   rw [hjv] at this;simp only [V.size] at this⊢;rw [hsz l i hi];exact this
 ·rw [p1]
  exact p4 (fun _ _ h=>h) _ _ p3'
theorem gX (r j i r':Nat) {e g s g' e' s':Nat} {q q' l:List V} (hr:ob[r]?=some ⟨.rows false e,true,g,.arr s q⟩) (hr':ob[r']?=some ⟨.row e',true,g',.arr s' q'⟩) (hj:q[j]?=some (.agg l)) (hi:l[i]?=some (.own r' g')) (h:Ev P cx N Q k ⟨n,t,(ob.set r' ⟨.row e',false,g',.arr s' q'⟩).set r ⟨.rows false e,true,g,.arr s (q.set j (.agg (l.set i (.sl true s' q'))))⟩⟩):Ev P cx N Q k ⟨n,t,ob⟩:=by
 refine⟨fun hn E a w R=>?_⟩;obtain⟨E',R'⟩:=R.frzEl hr hj hi hr';exact h.h hn E' a w R'
end
end Rdn.Dp
namespace Rdn.Dp
open Go Go.RowKit Rdn
section
variable {P:Program} {cx:Cx} {N:Nat} {Q:Exit→Act→World→Prop} {k:List It} {n:Nat} {t:List (Nat×V)} {ob:List Ob}
theorem xkt (r j i r':Nat) {kk:OK} {e g s g' e' s':Nat} {q q' l:List V} (hr:ob[r]?=some ⟨.rows false e,true,g,.arr s q⟩) (hr':ob[r']?=some ⟨kk,true,g',.arr s' q'⟩) (hk:kk=.row e'∨kk=.rows false e') (hp:V.pures q'=true) (hj:q[j]?=some (.agg l)) (hi:l[i]?=some (.own r' g')) (h:Ev P cx N Q k ⟨n,t,(ob.set r' ⟨.row e',false,g',.arr s' q'⟩).set r ⟨.rows false e,true,g,.arr s (q.set j (.agg (l.set i (.sl true s' q'))))⟩⟩):Ev P cx N Q k ⟨n,t,ob⟩:=by
 rcases hk with rfl|rfl
 ·exact gX r j i r' hr hr' hj hi h
 ·by_cases hne:r'=r
  ·subst hne
   rw [hr] at hr';cases hr';rw [List.getElem?_eq_some_iff] at hj;obtain⟨h1,h2⟩:=hj;have:=pures_iff.1 hp _ (List.getElem_mem h1);rw [h2] at this;simp only [V.pure] at this;have h3:=pures_iff.1 this _ (List.mem_of_getElem? hi);simp [V.pure] at h3
  refine fG r' hr' hp (gX r j i r' (by rw [List.getElem?_set_ne hne];exact hr) (List.getElem?_set_self (List.getElem?_eq_some_iff.1 hr').1) hj hi ?_);rw [List.set_set];exact h
theorem rE {α β:Type} [Inhabited α] (f:α→β) {l:List α} (h:l.length=4):l.map f=[f l[0]!,f l[1]!,f l[2]!,f l[3]!]:=by
 match l,h with
 |[a,b,c,d],_=>rfl
theorem yc4:∀{l:List V} {k:Nat} {x:V},V.pures l=true→x.pure=true→V.pures (l.set k x)=true
 |[],_,_,_,_=>rfl
 |y::l,0,x,h,hx=>by simp only [V.pures,Bool.and_eq_true] at h;simp only [List.set_cons_zero,V.pures,hx,h.2,Bool.and_self]
 |y::l,k+1,x,h,hx=>by simp only [V.pures,Bool.and_eq_true] at h;simp only [List.set_cons_succ,V.pures,h.1,yc4 h.2 hx,Bool.and_self]
theorem tY (r i r0 r1 r2 r3 e':Nat) {k0 k1 k2 k3:OK} {e g s g0 g1 g2 g3 s0 s1 s2 s3:Nat} {q0 q1 q2 q3 l0 l1 l2 l3:List V} {ob':List Ob} (hr:ob[r]?=some ⟨.rows false e,true,g,.arr s [.agg l0,.agg l1,.agg l2,.agg l3]⟩)
  (h0:ob[r0]?=some ⟨k0,true,g0,.arr s0 q0⟩) (h1:ob[r1]?=some ⟨k1,true,g1,.arr s1 q1⟩) (h2:ob[r2]?=some ⟨k2,true,g2,.arr s2 q2⟩) (h3:ob[r3]?=some ⟨k3,true,g3,.arr s3 q3⟩)
  (hk:(k0=.row e'∨k0=.rows false e')∧(k1=.row e'∨k1=.rows false e')∧(k2=.row e'∨k2=.rows false e')∧(k3=.row e'∨k3=.rows false e'):=by simp)
  (hp:V.pures q0=true∧V.pures q1=true∧V.pures q2=true∧V.pures q3=true:=by refine⟨?_,?_,?_,?_⟩<;>first|exact bV _ _|exact yc4 (bV _ _) rfl) (hi:l0[i]?=some (.own r0 g0)∧l1[i]?=some (.own r1 g1)∧l2[i]?=some (.own r2 g2)∧l3[i]?=some (.own r3 g3))
  (hd:r0≠r∧r1≠r∧r2≠r∧r3≠r∧r0≠r1∧r0≠r2∧r0≠r3∧r1≠r2∧r1≠r3∧r2≠r3:=by decide)
  (hq:V.pures [.agg (l0.set i (.sl true s0 q0)),.agg (l1.set i (.sl true s1 q1)),.agg (l2.set i (.sl true s2 q2)),.agg (l3.set i (.sl true s3 q3))]=true:=by rfl)
  (ho:((((ob.set r0 ⟨.row e',false,g0,.arr s0 q0⟩).set r1 ⟨.row e',false,g1,.arr s1 q1⟩).set r2 ⟨.row e',false,g2,.arr s2 q2⟩).set r3 ⟨.row e',false,g3,.arr s3 q3⟩).set r ⟨.row e,true,g,.arr s [.agg (l0.set i (.sl true s0 q0)),.agg (l1.set i (.sl true s1 q1)),.agg (l2.set i (.sl true s2 q2)),.agg (l3.set i (.sl true s3 q3))]⟩=ob':=by rfl)
  (h:Ev P cx N Q k ⟨n,t,ob'⟩):Ev P cx N Q k ⟨n,t,ob⟩:=by
 obtain⟨d0,d1,d2,d3,d01,d02,d03,d12,d13,d23⟩:=hd;have hl:=(List.getElem?_eq_some_iff.1 hr).1;have drop:∀(B:List Ob) (j:Nat) (X Y Y':Ob),j≠r→((B.set r Y').set j X).set r Y=(B.set j X).set r Y:=fun B j X Y Y' h=>by rw [List.set_comm _ _ h.symm,List.set_set]
 refine xkt r 0 i r0 hr h0 hk.1 hp.1 rfl hi.1 ?_;refine xkt r 1 i r1 (List.getElem?_set_self (by simpa using hl)) (by rw [List.getElem?_set_ne d1.symm,List.getElem?_set_ne d01];exact h1) hk.2.1 hp.2.1 rfl hi.2.1 ?_;rw [drop _ _ _ _ _ d1];refine xkt r 2 i r2 (List.getElem?_set_self (by simpa using hl)) (by rw [List.getElem?_set_ne d2.symm,List.getElem?_set_ne d12,List.getElem?_set_ne d02];exact h2) hk.2.2.1 hp.2.2.1 rfl hi.2.2.1 ?_;rw [drop _ _ _ _ _ d2];refine xkt r 3 i r3 (List.getElem?_set_self (by simpa using hl)) (by rw [List.getElem?_set_ne d3.symm,List.getElem?_set_ne d23,List.getElem?_set_ne d13,List.getElem?_set_ne d03];exact h3) hk.2.2.2 hp.2.2.2 rfl hi.2.2.2 ?_;rw [drop _ _ _ _ _ d3];refine fG r (List.getElem?_set_self (by simpa using hl)) hq ?_;rw [List.set_set];subst ho;exact h
end
end Rdn.Dp
