import Derived.Test.YtbgpfigkcpmnfaaGreatA9
import Derived.Test.YtbgpfigkcpmnfaaGreatA8
import Derived.Test.YtbgpfigkcpmnfaaGreatA6
set_option linter.unusedSimpArgs false
set_option linter.unusedVariables false
set_option maxHeartbeats 64000000
set_option maxRecDepth 100000
namespace Go.Proofs.YtbgpfigkcpmnfaaGreat
open Go Go.RowKit Rdn Rdn.Dp
structure okLk (l:PLocks):Prop where
 o:l.owner.length=4
 q:l.queue.length=4
 ow:∀x∈l.owner,-1≤x∧x<4
 qu:∀w∈l.queue,w.Nodup∧∀x∈w,0≤x∧x<4
def lk0:PLocks:=⟨[-1,-1,-1,-1],[[],[],[],[]]⟩
theorem yk5:okLk lk0:=⟨rfl,rfl,by unfold lk0;decide,by unfold lk0;decide⟩
def xeg (l:PLocks) (k t:Int):PLocks×Int:=
 if k<0∨4≤k∨l.owner[k.toNat]! =t then(l,2)
 else if ∃w∈l.queue,t∈w then(l,2)
 else if l.owner[k.toNat]! =-1 then(⟨l.owner.set k.toNat t,l.queue⟩,0)
 else(⟨l.owner,l.queue.set k.toNat (l.queue[k.toNat]!++[t])⟩,1)
def xdi (l:PLocks) (k t:Int):PLocks×Int×Bool:=
 if k<0∨4≤k∨l.owner[k.toNat]!≠t then(l,-1,false)
 else match l.queue[k.toNat]! with
  |[]=>(⟨l.owner.set k.toNat (-1),l.queue⟩,-1,true)
  |x::w=>(⟨l.owner.set k.toNat x,l.queue.set k.toNat w⟩,x,true)
theorem xh0 {α:Type} {l:List α} {k:Nat} {x y:α} {P:α→Prop} (h:∀z∈l,P z) (hx:P x) (hy:y∈l.set k x):P y:=by
 rcases List.mem_or_eq_of_mem_set hy with h1|rfl
 ·exact h y h1
 ·exact hx
theorem xam {α:Type} [Inhabited α] {l:List α} {k:Nat} (h:k<l.length):l[k]!∈l:=by
 rw [List.getElem!_eq_getElem?_getD,List.getElem?_eq_getElem h];exact List.getElem_mem h
theorem xyu {l:PLocks} (h:okLk l) {k t:Int} (h0:0≤t) (h1:t<4):okLk (xeg l k t).1:=by
 unfold xeg;refine xa6 (P:=fun r:PLocks×Int=>okLk r.1) (fun _=>h) fun c1=>?_;by_cases c2:∃w∈l.queue,t∈w
 ·rw [if_pos c2];exact h
 ·rw [if_neg c2]
  refine xa6 (P:=fun r:PLocks×Int=>okLk r.1) (fun _=>?_) fun _=>?_
  ·exact⟨by simp [h.o],h.q,fun x hx=>xh0 (P:=fun x=> -1≤x∧x<4) h.ow ⟨by omega,h1⟩ hx,h.qu⟩
  ·have hm:l.queue[k.toNat]!∈l.queue:=xam (by rw [h.q];omega)
   have hq:=h.qu _ hm;refine⟨h.o,by simp [h.q],h.ow,fun w hw=>xh0 (P:=fun w:List Int=>w.Nodup∧∀x∈w,0≤x∧x<4) h.qu ⟨?_,fun x hx=>?_⟩ hw⟩
   ·refine List.nodup_append.2 ⟨hq.1,by simp,fun a ha b hb=>?_⟩
    rw [List.mem_singleton] at hb;subst hb;exact fun e=>c2 ⟨_,hm,e▸ha⟩
   ·rcases List.mem_append.1 hx with h2|h2
    ·exact hq.2 x h2
    ·rw [List.mem_singleton] at h2;subst h2;exact⟨h0,h1⟩
theorem xmp {l:PLocks} (h:okLk l) (k t:Int):okLk (xdi l k t).1∧-1≤(xdi l k t).2.1∧(xdi l k t).2.1<4:=by
 unfold xdi;refine xa6 (P:=fun r:PLocks×Int×Bool=>okLk r.1∧-1≤r.2.1∧r.2.1<4) (fun _=>⟨h,by show(-1:Int)≤-1;decide,by show(-1:Int)<4;decide⟩) fun c1=>?_;have hm:l.queue[k.toNat]!∈l.queue:=xam (by rw [h.q];omega);have hq:=h.qu _ hm;split
 ·exact⟨⟨by simp [h.o],h.q,fun x hx=>xh0 (P:=fun x=> -1≤x∧x<4) h.ow (by decide) hx,h.qu⟩,by show(-1:Int)≤-1;decide,by show(-1:Int)<4;decide⟩
 ·rename_i x w e
  rw [e] at hq;have hx:=hq.2 x (by simp);exact⟨⟨by simp [h.o],by simp [h.q],fun y hy=>xh0 (P:=fun x=> -1≤x∧x<4) h.ow ⟨by omega,hx.2⟩ hy,fun v hv=>xh0 (P:=fun w:List Int=>w.Nodup∧∀x∈w,0≤x∧x<4) h.qu ⟨(List.nodup_cons.1 hq.1).2,fun y hy=>hq.2 y (by simp [hy])⟩ hv⟩,by show-1≤x;omega,hx.2⟩
def xyt (l:PLocks) (t:Int):PLocks:=⟨l.owner,l.queue.map fun w=>w.filter fun x=>x !=t⟩
def xue (t:Int) (s:PLocks×List Int) (i:Nat):PLocks×List Int:=((xdi s.1 i t).1,if(xdi s.1 i t).2.2=true∧0≤(xdi s.1 i t).2.1 then s.2++[(xdi s.1 i t).2.1] else s.2)
def xep (l:PLocks) (t:Int) (k:Nat):PLocks×List Int:=(List.range k).foldl (xue t) (xyt l t,[])
def xft (l:PLocks) (t:Int):PLocks×List Int:=xep l t 4
theorem xku (l:PLocks) (t:Int) (k:Nat):xep l t (k+1)=xue t (xep l t k) k:=by
 unfold xep;rw [List.range_succ,List.foldl_append];rfl
theorem yby {l:PLocks} (h:okLk l) (t:Int):okLk (xyt l t):=⟨h.o,by simp [xyt,h.q],h.ow,fun w hw=>by
 obtain⟨v,hv,rfl⟩:=List.mem_map.1 hw;have hq:=h.qu v hv;exact⟨hq.1.filter _,fun x hx=>hq.2 x (List.mem_filter.1 hx).1⟩⟩
theorem xgd {l:PLocks} (h:okLk l) (t:Int):∀k:Nat,okLk (xep l t k).1∧(xep l t k).2.length≤k∧∀x∈(xep l t k).2,0≤x∧x<4
 |0=>⟨yby h t,Nat.le_refl 0,fun x hx=>by simp [xep] at hx⟩
 |k+1=>by
  obtain⟨h1,h2,h3⟩:=xgd h t k;rw [xku];obtain⟨g1,g2,g3⟩:=xmp h1 k t;unfold xue;refine⟨g1,?_,?_⟩
  ·refine xa6 (P:=fun r:List Int=>r.length≤k+1) (fun _=>by simp;omega) fun _=>by omega
  ·refine xa6 (P:=fun r:List Int=>∀x∈r,0≤x∧x<4) (fun hc x hx=>?_) fun _=>h3
   rcases List.mem_append.1 hx with h4|h4
   ·exact h3 x h4
   ·rw [List.mem_singleton] at h4;subst h4;exact⟨hc.2,g3⟩
theorem okMach.le {p:PProg} {C D:Int} {m:PMach} (h:okMach p C m) (hc:C≤D):okMach p D m:=⟨h.prog,h.lay,h.mem,h.n,fun x hx=>(h.thr x hx).le hc⟩
def xod (m:PMach) (t:Nat):Prop:=m.thr[t]!.state=1∧m.thr[t]!.handler≠-1∧m.thr[t]!.saved=-1
def sigS (m:PMach) (t:Nat):PMach:=m.setT t {m.thr[t]! with saved:=m.thr[t]!.pc,pc:=m.thr[t]!.handler}
theorem yl3 {p:PProg} {C:Int} {m:PMach} (h:okMach p C m) {t:Nat} (ht:t<4) (hc:xod m t):okMach p C (sigS m t):=by
 obtain⟨a1,a2,a3,a4,a5,a6,a7,a8,a9,a10,a11,a12,a13⟩:=xcm h ht;obtain⟨_,c2,_⟩:=hc;exact h.set (Int.le_refl C) h.mem t ⟨a1,a2,a3,a4,by show 0≤m.thr[t]!.handler;omega,a10,a7,a8,a9,a10,by show-1≤m.thr[t]!.pc;omega,a6,a13⟩
theorem xkw (l:PLay) (s:List Int) {x:Canon} (hx:0≤x.val∧x.val≤65535):xbh (rawS l s x).1:=by
 unfold rawS;refine xa6 (P:=fun r:Cell×Int=>xbh r.1) (fun _=>xjx) fun _=>?_;refine xa6 (P:=fun r:Cell×Int=>xbh r.1) (fun _=>⟨Int.le_refl 0,by show(0:Int)≤2;decide,hx.1,hx.2⟩) fun _=>?_;exact xa6 (P:=fun r:Cell×Int=>xbh r.1) (fun _=>okU 2 (by decide) _) fun _=>okU 1 (by decide) _
def xnn (x:PThr) (v:Cell):PThr:={setR x 0 v with state:=1}
theorem xvk {C:Int} {x:PThr} (h:okThr C x) {v:Cell} (hv:xbh v):okThr C (xnn x v):=by
 obtain⟨a1,a2,a3,a4,a5⟩:=xj1 h 0 hv;exact⟨a1,by show(0:Int)≤1;decide,by show(1:Int)≤4;decide,a4,a5⟩
def yb6 (x:PThr):PThr:={x with state:=3}
theorem ye4 {C:Int} {x:PThr} (h:okThr C x):okThr C (yb6 x):=by
 obtain⟨a1,a2,a3,a4,a5⟩:=h;exact⟨a1,by show(0:Int)≤3;decide,by show(3:Int)≤4;decide,a4,a5⟩
theorem xxo {C:Int} {x:PThr} (h:okThr C x) {trap:Int} (code:Int) (h1:0≤trap) (h2:trap≤6):okThr C (endS x trap code):=by
 obtain⟨a1,a2,a3,a4,a5,a6,a7,a8,a9,a10,a11,a12,a13,a14⟩:=h;exact⟨a1,by show(0:Int)≤4;decide,by show(4:Int)≤4;decide,a4,a5,a6,a7,a8,a9,a10,a11,a12,h1,h2⟩
theorem yin {C:Int} (hC:0≤C) {pc:Int} (h1:0≤pc) (h2:pc≤255) {a:Cell} (ha:xbh a):okThr C (thrN pc a):=by
 refine⟨fun c hc=>?_,by show(0:Int)≤1;decide,by show(1:Int)≤4;decide,rfl,h1,h2,Int.le_refl 0,hC,by show(-1:Int)≤-1;decide,by show(-1:Int)≤255;decide,by show(-1:Int)≤-1;decide,by show(-1:Int)≤255;decide,Int.le_refl 0,by show(0:Int)≤6;decide⟩;rcases List.mem_cons.1 hc with rfl|hc
 ·exact ha
 ·rw [(List.mem_replicate.1 hc).2];exact xjx
theorem yim {C:Int} (hC:0≤C):okThr C thr0:=by
 refine⟨fun c hc=>?_,Int.le_refl 0,by show(0:Int)≤4;decide,rfl,Int.le_refl 0,by show(0:Int)≤255;decide,Int.le_refl 0,hC,by show(-1:Int)≤-1;decide,by show(-1:Int)≤255;decide,by show(-1:Int)≤-1;decide,by show(-1:Int)≤255;decide,Int.le_refl 0,by show(0:Int)≤6;decide⟩;rw [(List.mem_replicate.1 hc).2];exact xjx
def xui (seed n g:Int) (s:List Int) (x:List Int×Int) (k:Nat):List Int×Int:=(x.1.set (((k:Int)+seed) % n).toNat x.2,x.2+s[(((k:Int)+seed) % n).toNat]!+1+g)
def mkN (s:List Int) (seed:Int) (k:Nat):List Int×Int:=(List.range k).foldl (xui seed s.length (seed / (50*s.length) % 40) s) (List.replicate s.length 0,1+seed / s.length % 50)
theorem xji (s:List Int) (seed:Int) (k:Nat):mkN s seed (k+1)=xui seed s.length (seed / (50*s.length) % 40) s (mkN s seed k) k:=by
 unfold mkN;rw [List.range_succ,List.foldl_append];rfl
theorem xox (s:List Int) (seed:Int):∀k:Nat,(mkN s seed k).1.length=s.length
 |0=>by simp [mkN]
 |k+1=>by rw [xji];simp [xui,xox s seed k]
structure MkOk (s:List Int) (seed:Int) (k:Nat):Prop where
 a0:1≤(mkN s seed k).2
 a1:(mkN s seed k).2≤51+73*k
 lay:∀j:Nat,j<k→0≤(mkN s seed k).1[(((j:Int)+seed) % s.length).toNat]!∧(mkN s seed k).1[(((j:Int)+seed) % s.length).toNat]!+s[(((j:Int)+seed) % s.length).toNat]!<(mkN s seed k).2
 ord:∀i j:Nat,i<j→j<k→(mkN s seed k).1[(((i:Int)+seed) % s.length).toNat]!+s[(((i:Int)+seed) % s.length).toNat]!<(mkN s seed k).1[(((j:Int)+seed) % s.length).toNat]!
theorem yl1 {n:Nat} {seed:Int} {i j:Nat} (hij:i<j) (hj:j<n):(((i:Int)+seed) % n).toNat≠(((j:Int)+seed) % n).toNat:=by
 intro e;have h0:(0:Int)<n:=by omega
 have p1:=Int.emod_nonneg ((i:Int)+seed) (show(n:Int)≠0 by omega);have p2:=Int.emod_nonneg ((j:Int)+seed) (show(n:Int)≠0 by omega);have e1:((i:Int)+seed) % n=((j:Int)+seed) % n:=by omega
 have e2:=Int.emod_emod_of_dvd;have e3:((j:Int)-i) % n=0:=by
  have:=Int.emod_eq_emod_iff_emod_sub_eq_zero.1 e1.symm
  rwa [show(j:Int)+seed-(i+seed)=j-i by omega] at this
 rw [Int.emod_eq_of_lt (by omega) (by omega)] at e3;omega
theorem mkOk {s:List Int} (hs:okSz s) {seed:Int} (h0:0≤seed):∀k:Nat,k≤s.length→MkOk s seed k
 |0,_=>by
  have e:(mkN s seed 0).2=1+seed / s.length % 50:=rfl;refine⟨by rw [e];omega,by rw [e];omega,fun j hj=>by omega,fun i j _ hj=>by omega⟩
 |k+1,hk=>by
  obtain⟨a0,a1,lay,ord⟩:=mkOk hs h0 k (by omega);obtain⟨s1,s2,s3⟩:=hs;have hl:=xox s seed k;have hn:(0:Int)<s.length:=by omega
  have hr:∀j:Nat,(((j:Int)+seed) % s.length).toNat<s.length:=fun j=>by
   have p1:=Int.emod_nonneg ((j:Int)+seed) (show(s.length:Int)≠0 by omega);have p2:=Int.emod_lt_of_pos ((j:Int)+seed) hn;omega
  have hz:1≤s[(((k:Int)+seed) % s.length).toNat]!∧s[(((k:Int)+seed) % s.length).toNat]!≤32:=s1 _ (xam (hr k));have e1:(mkN s seed (k+1)).1=(mkN s seed k).1.set (((k:Int)+seed) % s.length).toNat (mkN s seed k).2:=by rw [xji];rfl
  have e2:(mkN s seed (k+1)).2=(mkN s seed k).2+s[(((k:Int)+seed) % s.length).toNat]!+1+seed / (50*s.length) % 40:=by rw [xji];rfl
  have at_:(mkN s seed (k+1)).1[(((k:Int)+seed) % s.length).toNat]! =(mkN s seed k).2:=by rw [e1];exact xit (by rw [hl];exact hr k) _
  have ne_:∀j:Nat,j<k→(mkN s seed (k+1)).1[(((j:Int)+seed) % s.length).toNat]! =(mkN s seed k).1[(((j:Int)+seed) % s.length).toNat]!:=fun j hj=>by
   rw [e1,List.getElem!_eq_getElem?_getD,List.getElem?_set_ne (yl1 hj (by omega)).symm,←List.getElem!_eq_getElem?_getD]
  refine⟨by rw [e2];omega,by rw [e2];omega,fun j hj=>?_,fun i j hij hj=>?_⟩
  ·by_cases e:j=k
   ·subst e;rw [at_,e2];omega
   ·rw [ne_ j (by omega),e2]
    have:=lay j (by omega);omega
  ·by_cases e:j=k
   ·subst e
    rw [at_,ne_ i hij];exact(lay i hij).2
   ·rw [ne_ j (by omega),ne_ i (by omega)]
    exact ord i j hij (by omega)
theorem yf5 {n:Nat} {seed:Int} {i:Nat} (hi:i<n):∃j:Nat,j<n∧(((j:Int)+seed) % n).toNat=i:=by
 have p1:=Int.emod_nonneg ((i:Int)-seed) (show(n:Int)≠0 by omega);have p2:=Int.emod_lt_of_pos ((i:Int)-seed) (show(0:Int)<n by omega);refine⟨(((i:Int)-seed) % n).toNat,by omega,?_⟩;rw [Int.toNat_of_nonneg p1,Int.emod_add_emod,show(i:Int)-seed+seed=i by omega,Int.emod_eq_of_lt (by omega) (by omega)];omega
theorem ygn {s:List Int} (hs:okSz s) {seed:Int} (h0:0≤seed) (key:Int):xeh ⟨(mkN s seed s.length).1,key⟩ s:=by
 obtain⟨a0,a1,lay,ord⟩:=mkOk hs h0 s.length (Nat.le_refl _);have h4:=hs.2.2;refine⟨hs,xox s seed _,fun i hi=>?_⟩;obtain⟨x,hx,rfl⟩:=yf5 (seed:=seed) hi;refine⟨(lay x hx).1,?_,fun j hj=>?_⟩
 ·have:=(lay x hx).2
  show(mkN s seed s.length).1[_]!+_≤512;omega
 ·obtain⟨y,hy,rfl⟩:=yf5 (n:=s.length) (seed:=seed) (i:=j) (by omega)
  rcases Nat.lt_trichotomy x y with c|rfl|c
  ·exact .inl (ord x y c hy)
  ·exact absurd hj (Nat.lt_irrefl _)
  ·exact .inr (ord y x c hx)
def ldW (c:List Cell) (b:Int):List Int→List Cell
 |[]=>c
 |v::d=>ldW (c.set b.toNat ⟨c[b.toNat]!.tag,v⟩) (b+1) d
def xmm (c:List Cell):List Int→List (List Int)→List Cell
 |b::bs,d::ds=>xmm (ldW c b d) bs ds
 |_,_=>c
theorem yep:∀{d:List Int} {c:List Cell} {b:Int},xd5 c→(∀v∈d,0≤v∧v≤65535)→0≤b→b+d.length≤c.length→xd5 (ldW c b d)∧(ldW c b d).length=c.length
 |[],c,b,h,_,_,_=>⟨h,rfl⟩
 |v::d,c,b,h,hv,h0,hb=>by
  rw [List.length_cons] at hb;have hk:b.toNat<c.length:=by omega
  have hc:=xb3 h hk;have hv0:=hv v (by simp);have:=yep (d:=d) (c:=c.set b.toNat ⟨c[b.toNat]!.tag,v⟩) (b:=b+1) (xt2 h _ ⟨hc.1,hc.2.1,hv0.1,hv0.2⟩) (fun x hx=>hv x (by simp [hx])) (by omega) (by rw [List.length_set];omega);rw [List.length_set] at this;exact this
theorem xub:∀{ds:List (List Int)} {bs:List Int} {c:List Cell},xd5 c→(∀d∈ds,∀v∈d,0≤v∧v≤65535)→bs.length=ds.length→(∀i:Nat,i<ds.length→0≤bs[i]!∧bs[i]!+ds[i]!.length≤c.length)→xd5 (xmm c bs ds)∧(xmm c bs ds).length=c.length
 |[],bs,c,h,_,_,_=>by cases bs<;>exact⟨h,rfl⟩
 |d::ds,[],c,h,_,hl,_=>by simp at hl
 |d::ds,b::bs,c,h,hv,hl,hb=>by
  have h0:=hb 0 (by simp);obtain⟨k1,k2⟩:=yep (d:=d) (b:=b) h (hv d (by simp)) h0.1 h0.2;have:=xub (ds:=ds) (bs:=bs) k1 (fun x hx=>hv x (by simp [hx])) (by simpa using hl) (fun i hi=>by
   have:=hb (i+1) (by simpa using hi);rw [k2];exact this)
  rw [k2] at this;exact this
def emptyL:List PLine:=List.replicate 4 ⟨-1,false,[]⟩
def xyo (p:PProg) (l:PLay):PMem:=⟨xmm (List.replicate 512 c0) l.bases p.data,emptyL⟩
def xoa (p:PProg) (l:PLay):PMach:=⟨l,xyo p l,[{thr0 with state:=1},thr0,thr0,thr0]⟩
theorem ydp {p:PProg} {l:PLay} (hp:okProg p) (hl:xeh l p.sizes) (hv:∀d∈p.data,∀v∈d,0≤v∧v≤65535):okMach p 0 (xoa p l):=by
 obtain⟨l1,l2,l3⟩:=id hl;have hd:=hp.dl;obtain⟨k1,k2⟩:=xub (ds:=p.data) (bs:=l.bases) (c:=List.replicate 512 c0) (fun c hc=>by rw [(List.mem_replicate.1 hc).2];exact xjx) hv (by omega) (fun i hi=>by
  have h1:=l3 i (by omega);have h2:=hp.dat i (by omega);rw [List.length_replicate];omega)
 refine⟨hp,hl,⟨by rw [←List.length_replicate (n:=512) (a:=c0)];exact k2,rfl,k1,fun i hi=>?_⟩,rfl,fun x hx=>?_⟩
 ·have:emptyL[i]! =⟨-1,false,[]⟩:=by
   rcases(by omega:i=0∨i=1∨i=2∨i=3) with rfl|rfl|rfl|rfl<;>rfl
  show xdj i emptyL[i]!;rw [this];unfold xdj;rw [if_pos rfl];exact⟨rfl,rfl⟩
 ·have z:=yim (C:=0) (Int.le_refl 0)
  simp only [xoa,List.mem_cons,List.not_mem_nil,or_false] at hx;rcases hx with rfl|rfl|rfl|rfl
  ·obtain⟨a1,a2,a3,a4⟩:=z
   exact⟨a1,by show(0:Int)≤1;decide,by show(1:Int)≤4;decide,a4⟩
  ·exact z
  ·exact z
  ·exact z
section
variable {p:PProg} {m:PMach} {t:Nat}
theorem xur (h:(p.code.length:Int)≤m.thr[t]!.pc):sOne p m t=(m.setT t (xfm m.thr[t]! 2),2):=by
 unfold sOne;exact if_pos h
variable (h:m.thr[t]!.pc<p.code.length)
include h
theorem xp5 (o:p.code[m.thr[t]!.pc.toNat]!.op=0):sOne p m t=(m.setT t (xcs p.code[m.thr[t]!.pc.toNat]! m.thr[t]! (m.thr[t]!.pc+1)),-1):=by
 unfold sOne;dsimp only;rw [if_neg (by omega),if_pos o]
theorem xp6 (o:p.code[m.thr[t]!.pc.toNat]!.op=1):sOne p m t=(m.setT t (xcs p.code[m.thr[t]!.pc.toNat]! (setR m.thr[t]! p.code[m.thr[t]!.pc.toNat]!.a ⟨0,IntKind.u16.wrap p.code[m.thr[t]!.pc.toNat]!.imm⟩) (m.thr[t]!.pc+1)),-1):=by
 unfold sOne;dsimp only;rw [if_neg (by omega),if_neg (by omega),if_pos o]
theorem xp7 (o:p.code[m.thr[t]!.pc.toNat]!.op=2):sOne p m t=(m.setT t (xcs p.code[m.thr[t]!.pc.toNat]! (setR m.thr[t]! p.code[m.thr[t]!.pc.toNat]!.a m.thr[t]!.regs[p.code[m.thr[t]!.pc.toNat]!.b.toNat]!) (m.thr[t]!.pc+1)),-1):=by
 unfold sOne;dsimp only;rw [if_neg (by omega),if_neg (by omega),if_neg (by omega),if_pos o]
theorem xle (o:p.code[m.thr[t]!.pc.toNat]!.op=15):sOne p m t=(m.setT t (xcs p.code[m.thr[t]!.pc.toNat]! (setR m.thr[t]! p.code[m.thr[t]!.pc.toNat]!.a ⟨1,IntKind.u16.wrap m.lay.bases[p.code[m.thr[t]!.pc.toNat]!.imm.toNat]!⟩) (m.thr[t]!.pc+1)),-1):=by
 unfold sOne;dsimp only;rw [if_neg (by omega),if_neg (by omega),if_neg (by omega),if_neg (by omega),if_pos o]
theorem xlf (o:p.code[m.thr[t]!.pc.toNat]!.op=16) {c:Cell×Int} (hc:xc4 m.lay p.sizes m.thr[t]!.regs[p.code[m.thr[t]!.pc.toNat]!.b.toNat]! (IntKind.u16.wrap p.code[m.thr[t]!.pc.toNat]!.imm) false=c):sOne p m t=if c.2≠0 then(m.setT t (xfm m.thr[t]! c.2),2) else({m with mem:=(xhs m.mem c.1.val).1,thr:=m.thr.set t (xcs p.code[m.thr[t]!.pc.toNat]! (setR m.thr[t]! p.code[m.thr[t]!.pc.toNat]!.a (xhs m.mem c.1.val).2) (m.thr[t]!.pc+1))},-1):=by
 unfold sOne;dsimp only;rw [if_neg (by omega),if_neg (by omega),if_neg (by omega),if_neg (by omega),if_neg (by omega),if_pos (.inl o),if_neg (show ¬p.code[m.thr[t]!.pc.toNat]!.op=17 by omega),hc,if_pos o]
theorem xlg (o:p.code[m.thr[t]!.pc.toNat]!.op=17) {c:Cell×Int} (hc:xc4 m.lay p.sizes m.thr[t]!.regs[p.code[m.thr[t]!.pc.toNat]!.a.toNat]! (IntKind.u16.wrap p.code[m.thr[t]!.pc.toNat]!.imm) false=c):sOne p m t=if c.2≠0 then(m.setT t (xfm m.thr[t]! c.2),2) else({m with mem:=xf1 m.mem c.1.val m.thr[t]!.regs[p.code[m.thr[t]!.pc.toNat]!.b.toNat]!,thr:=m.thr.set t (xcs p.code[m.thr[t]!.pc.toNat]! m.thr[t]! (m.thr[t]!.pc+1))},-1):=by
 unfold sOne;dsimp only;rw [if_neg (by omega),if_neg (by omega),if_neg (by omega),if_neg (by omega),if_neg (by omega),if_pos (.inr o),if_pos o,hc,if_neg (show ¬p.code[m.thr[t]!.pc.toNat]!.op=16 by omega)]
theorem xlh (o:p.code[m.thr[t]!.pc.toNat]!.op=18):sOne p m t=(m.setT t (xcs p.code[m.thr[t]!.pc.toNat]! m.thr[t]! p.code[m.thr[t]!.pc.toNat]!.imm),-1):=by
 unfold sOne;dsimp only;rw [if_neg (by omega),if_neg (by omega),if_neg (by omega),if_neg (by omega),if_neg (by omega),if_neg (by omega),if_pos o]
theorem xfw (o:p.code[m.thr[t]!.pc.toNat]!.op=19∨p.code[m.thr[t]!.pc.toNat]!.op=20):sOne p m t=if m.thr[t]!.regs[p.code[m.thr[t]!.pc.toNat]!.a.toNat]!.tag≠0 then(m.setT t (xfm m.thr[t]! 3),2) else(m.setT t (xcs p.code[m.thr[t]!.pc.toNat]! m.thr[t]! (if(m.thr[t]!.regs[p.code[m.thr[t]!.pc.toNat]!.a.toNat]!.val=0)=(p.code[m.thr[t]!.pc.toNat]!.op=19) then p.code[m.thr[t]!.pc.toNat]!.imm else m.thr[t]!.pc+1)),-1):=by
 unfold sOne;dsimp only;rw [if_neg (by omega),if_neg (by omega),if_neg (by omega),if_neg (by omega),if_neg (by omega),if_neg (by omega),if_neg (by omega),if_pos o]
theorem xli (o:p.code[m.thr[t]!.pc.toNat]!.op=21):sOne p m t=(m.setT t (xcs p.code[m.thr[t]!.pc.toNat]! (setR m.thr[t]! p.code[m.thr[t]!.pc.toNat]!.a ⟨0,IntKind.u16.wrap (m.thr[t]!.pc+1)⟩) p.code[m.thr[t]!.pc.toNat]!.imm),-1):=by
 unfold sOne;dsimp only;rw [if_neg (by omega),if_neg (by omega),if_neg (by omega),if_neg (by omega),if_neg (by omega),if_neg (by omega),if_neg (by omega),if_neg (by omega),if_pos o]
theorem xlj (o:p.code[m.thr[t]!.pc.toNat]!.op=22):sOne p m t=if m.thr[t]!.regs[p.code[m.thr[t]!.pc.toNat]!.a.toNat]!.tag≠0 then(m.setT t (xfm m.thr[t]! 3),2) else if m.thr[t]!.regs[p.code[m.thr[t]!.pc.toNat]!.a.toNat]!.val>255 then(m.setT t (xfm m.thr[t]! 2),2) else(m.setT t (xcs p.code[m.thr[t]!.pc.toNat]! m.thr[t]! m.thr[t]!.regs[p.code[m.thr[t]!.pc.toNat]!.a.toNat]!.val),-1):=by
 unfold sOne;dsimp only;rw [if_neg (by omega),if_neg (by omega),if_neg (by omega),if_neg (by omega),if_neg (by omega),if_neg (by omega),if_neg (by omega),if_neg (by omega),if_neg (by omega),if_pos o]
theorem xll (o:p.code[m.thr[t]!.pc.toNat]!.op=24):sOne p m t=if m.thr[t]!.saved=-1 then(m.setT t (xfm m.thr[t]! 1),2) else(m.setT t (xcs p.code[m.thr[t]!.pc.toNat]! {m.thr[t]! with saved:=-1} m.thr[t]!.saved),-1):=by
 unfold sOne;dsimp only;rw [if_neg (by omega),if_neg (by omega),if_neg (by omega),if_neg (by omega),if_neg (by omega),if_neg (by omega),if_neg (by omega),if_neg (by omega),if_neg (by omega),if_neg (by omega),if_pos o]
theorem xlk (o:p.code[m.thr[t]!.pc.toNat]!.op=23):sOne p m t=(m.setT t {m.thr[t]! with state:=2,pc:=m.thr[t]!.pc+1},1):=by
 unfold sOne;dsimp only;rw [if_neg (by omega),if_neg (by omega),if_neg (by omega),if_neg (by omega),if_neg (by omega),if_neg (by omega),if_neg (by omega),if_neg (by omega),if_neg (by omega),if_neg (by omega),if_neg (by omega),if_pos o]
theorem xp4 (o:3≤p.code[m.thr[t]!.pc.toNat]!.op∧p.code[m.thr[t]!.pc.toNat]!.op≤14) {c:Cell×Int} (hc:aluS m.lay p.sizes p.code[m.thr[t]!.pc.toNat]!.op m.thr[t]!.regs[p.code[m.thr[t]!.pc.toNat]!.b.toNat]! m.thr[t]!.regs[p.code[m.thr[t]!.pc.toNat]!.c.toNat]! =c):sOne p m t=if c.2≠0 then(m.setT t (xfm m.thr[t]! c.2),2) else(m.setT t (xcs p.code[m.thr[t]!.pc.toNat]! (setR m.thr[t]! p.code[m.thr[t]!.pc.toNat]!.a c.1) (m.thr[t]!.pc+1)),-1):=by
 unfold sOne;dsimp only;rw [if_neg (by omega),if_neg (by omega),if_neg (by omega),if_neg (by omega),if_neg (by omega),if_neg (by omega),if_neg (by omega),if_neg (by omega),if_neg (by omega),if_neg (by omega),if_neg (by omega),if_neg (by omega),hc]
end
theorem xb9 {i:PInstr} {x:PThr} {n:Int} (h:xab i.op):xcs i x n={x with pc:=n,count:=x.count+1}:=by unfold xcs;rw [if_pos h]
theorem xbe {i:PInstr} {x:PThr} {n:Int} (h:¬xab i.op):xcs i x n={x with pc:=n}:=by unfold xcs;rw [if_neg h]
end Go.Proofs.YtbgpfigkcpmnfaaGreat
namespace Go.Proofs.YtbgpfigkcpmnfaaGreat
open Go Go.RowKit Rdn Rdn.Dp
abbrev plV (q:Int×Int):V:=.agg [.int .i64 q.1,.int .i64 q.2]
theorem ydu {s:List Int} (h:okSz s) {k:Nat} (hk:k<s.length):1≤s[k]!∧s[k]!≤32:=h.1 _ (xam hk)
theorem yax (s:List Int) (h:okSz s):Fnc Tryz.prog 77 [.sl false 1 (i64s s)] (fun x obs=>x=.bool true∧obs=[]):=by
 refine zcf Tryz.prog 77 fun mz=>?_;have h2:=h.2.1;have h3:=h.2.2;refine zgo mz fun W S=>?_;refine zlk [0,5,6] (fun p:{p:Nat // p≤s.length}=>[(7,.int .i64 p.1)]) (fun _=>[]) (fun p=>s.length-p.1) (⟨0,by simp⟩) 0 ?_;intro J hJ
 rintro⟨k,hk0⟩
 by_cases hlt:k<s.length
 ·have h4:=ydu h hlt
  refine zst ?_;exact zn0 (hJ _ (⟨k+1,hlt⟩) (by first|omega|(dsimp only;omega)|(simp;omega))) hlt
 obtain rfl:k=s.length:=by omega
 refine zst ?_;exact zrt mz
theorem xiu (s:List Int) (r o:Int):Fnc Tryz.prog 98 [.sl false 1 (i64s s),plV (r,o)] (fun x obs=>x=.bool (decide (insS s r o))∧obs=[]):=by
 refine zcf Tryz.prog 98 fun mz=>?_;refine Fnc.wf fun hw=>?_;simp only [V.wfs,V.wf,xdw,List.length_map] at hw;have hm:=hw.1.2;by_cases h1:0≤r∧r<s.length
 ·obtain⟨k,rfl⟩:∃k:Nat,r=k:=⟨r.toNat,by omega⟩
  have hk:k<s.length:=by omega
  by_cases h2:0≤o∧o<s[k]!
  ·have hd:insS s k o:=⟨by omega,by omega,h2.1,by simpa using h2.2⟩
   rw [decT hd];clear hw;refine zgo mz fun W S=>?_;exact zrt mz
  ·have hd:¬insS s k o:=fun h=>h2 ⟨h.2.2.1,by simpa using h.2.2.2⟩
   rw [decF hd];by_cases h3:0≤o
   ·clear hw
    refine zgo mz fun W S=>?_;exact zrt mz
   ·clear hw
    refine zgo mz fun W S=>?_;exact zrt mz
 ·have hd:¬insS s r o:=fun h=>h1 ⟨h.1,h.2.1⟩
  rw [decF hd];by_cases h3:0≤r
  ·clear hw
   refine zgo mz fun W S=>?_;exact zrt mz
  ·clear hw
   refine zgo mz fun W S=>?_;exact zrt mz
theorem xt8 {bs s:List Int} {k:Nat} (hk:k<s.length) (hl:bs.length=s.length) (a:Int):resS (bs.drop k) (s.drop k) k a=if bs[k]!≤a∧a<bs[k]!+s[k]! then some ((k:Int),a-bs[k]!) else resS (bs.drop (k+1)) (s.drop (k+1)) ((k+1:Nat):Int) a:=by
 rw [List.drop_eq_getElem_cons (show k<bs.length by omega),List.drop_eq_getElem_cons hk];simp only [resS];simp [hk,show k<bs.length by omega]
theorem xpf {bs s:List Int} (hl:bs.length=s.length) (a:Int):resS (bs.drop s.length) (s.drop s.length) (s.length:Int) a=none:=by
 rw [List.drop_eq_nil_of_le (by omega),List.drop_length];simp only [resS]
theorem xfs {l:PLay} {s:List Int} (h:xeh l s) {k:Nat} (hk:k<s.length):0≤l.bases[k]!∧l.bases[k]!+s[k]!≤512∧1≤s[k]!∧s[k]!≤32:=by
 have h1:=h.2.2 k hk;have h2:=ydu h.1 hk;exact⟨h1.1,h1.2.1,h2.1,h2.2⟩
theorem xkx (l:PLay) (s:List Int) (a:Int) (h:xeh l s) (q:Option (Int×Int)) (hq:resS l.bases s 0 a=q):Fnc Tryz.prog 106 [layV false l,.sl false 1 (i64s s),.int .i64 a] (fun x obs=>x=.tup [plV (q.getD (0,0)),.bool q.isSome]∧obs=[]):=by
 refine zcf Tryz.prog 106 fun mz=>?_;have hb:=h.2.1;have hs4:=h.1.2.2;refine zgo mz fun W S=>?_;refine zlk [1,2,6,11,12] (fun p:{p:Nat // p≤s.length∧resS l.bases s 0 a=resS (l.bases.drop p) (s.drop p) p a}=>[(13,.int .i64 p.1)]) (fun _=>[⟨.box false 32,true,0,layV false l⟩,⟨.box false 196,true,0,plV (0,0)⟩]) (fun p=>s.length-p.1) (⟨0,by simp,rfl⟩) 2 ?_;intro J hJ
 rintro⟨k,hk0,hk1⟩
 by_cases hlt:k<s.length
 ·have h4:=xfs h hlt
  have hu:=xt8 hlt hb a;by_cases c:l.bases[k]!≤a∧a<l.bases[k]!+s[k]!
  ·rw [←hk1,hq,if_pos c] at hu
   subst hu;refine zst ?_;exact zrt mz
  ·rw [if_neg c] at hu
   by_cases c1:l.bases[k]!≤a
   ·refine zst ?_
    exact zn2 (hJ _ (⟨k+1,hlt,hk1.trans hu⟩) (by first|omega|(dsimp only;omega)|(simp;omega))) hlt
   ·refine zst ?_
    exact zn2 (hJ _ (⟨k+1,hlt,hk1.trans hu⟩) (by first|omega|(dsimp only;omega)|(simp;omega))) hlt
 obtain rfl:k=s.length:=by omega
 rw [xpf hb,hq] at hk1;subst hk1;refine zst ?_;exact zrt mz
theorem xjq {l:PLay} {s:List Int} (h:xeh l s) {a:Int} {q:Int×Int} (hq:resS l.bases s 0 a=some q):insS s q.1 q.2∧0≤a∧a<512:=by
 have key:∀(n k:Nat),k+n=s.length→resS (l.bases.drop k) (s.drop k) k a=some q→insS s q.1 q.2∧0≤a∧a<512:=by
  intro n
  induction n with
  |zero=>intro k hk hr;rw [show k=s.length by omega,xpf h.2.1] at hr;cases hr
  |succ n ih=>
   intro k hk hr;have hl:=xfs h (k:=k) (by omega);rw [xt8 (by omega) h.2.1] at hr;by_cases c:l.bases[k]!≤a∧a<l.bases[k]!+s[k]!
   ·rw [if_pos c] at hr
    injection hr with hr;subst hr
    refine⟨⟨by simp,by simp;omega,by(show 0≤a-l.bases[k]!);omega,?_⟩,by omega,by omega⟩;show a-l.bases[k]!<s[((k:Int)).toNat]!;rw [Int.toNat_natCast];omega
   ·rw [if_neg c] at hr
    exact ih (k+1) (by omega) hr
 exact key s.length 0 (by omega) hq
theorem ye8 (l:PLay) (s:List Int) (c:Cell) (h:xeh l s) (hc:xbh c):Fnc Tryz.prog 84 [layV false l,.sl false 1 (i64s s),xau c] (fun x obs=>x=xaf (canS l s c)∧obs=[]):=by
 refine zcf Tryz.prog 84 fun mz=>?_;obtain⟨t,v⟩:=c;obtain⟨h0,h1,h2,h3⟩:=hc;dsimp only at h0 h1 h2 h3;by_cases c0:t=0
 ·subst c0
  refine zgo mz fun W S=>?_;exact zrt mz
 by_cases c2:t=2
 ·subst c2
  refine zgo mz fun W S=>?_;exact zrt mz
 have ht:t=1:=by omega
 subst ht;cases hq:resS l.bases s 0 v with
 |none=>
  have hr:canS l s ⟨1,v⟩=⟨1,0,-1,v⟩:=by simp [canS,hq]
  have f:=xkx l s v h _ hq;rw [hr];refine zgo mz fun W S=>?_;refine zcd (f) ?_;exact zrt mz
 |some q=>
  obtain⟨r,o⟩:=q;have hr:canS l s ⟨1,v⟩=⟨1,0,r,o⟩:=by simp [canS,hq]
  have f:=xkx l s v h _ hq;rw [hr];refine zgo mz fun W S=>?_;refine zcd (f) ?_;exact zrt mz
theorem yhi (s:List Int) (x:Canon):decide (xgi s x)=if x.tag=0∨x.tag=2 then decide (x.region=0∧x.offset=0) else decide (x.tag=1∧x.val=0∧insS s x.region x.offset):=by
 unfold xgi;by_cases c:x.tag=0∨x.tag=2
 ·simp only [if_pos c]
 ·simp only [if_neg c]
theorem xo3 (s:List Int) (x:Canon):Fnc Tryz.prog 73 [.sl false 1 (i64s s),xaf x] (fun y obs=>y=.bool (decide (xgi s x))∧obs=[]):=by
 refine zcf Tryz.prog 73 fun mz=>?_;rw [yhi];obtain⟨t,v,r,o⟩:=x;dsimp only;by_cases c0:t=0
 ·subst c0
  rw [if_pos (by simp)];by_cases c1:r=0
  ·by_cases c2:o=0
   ·rw [decT ⟨c1,c2⟩]
    refine zgo mz fun W S=>?_;exact zrt mz
   ·rw [decF (fun q=>c2 q.2)]
    refine zgo mz fun W S=>?_;exact zrt mz
  ·rw [decF (fun q=>c1 q.1)]
   refine zgo mz fun W S=>?_;exact zrt mz
 by_cases c2:t=2
 ·subst c2
  rw [if_pos (by simp)];by_cases c1:r=0
  ·by_cases c2:o=0
   ·rw [decT ⟨c1,c2⟩]
    refine zgo mz fun W S=>?_;exact zrt mz
   ·rw [decF (fun q=>c2 q.2)]
    refine zgo mz fun W S=>?_;exact zrt mz
  ·rw [decF (fun q=>c1 q.1)]
   refine zgo mz fun W S=>?_;exact zrt mz
 rw [if_neg (by omega)];by_cases c1:t=1
 ·subst c1
  by_cases c3:v=0
  ·have f:=xiu s r o
   by_cases c4:insS s r o
   ·rw [decT c4] at f
    rw [decT ⟨rfl,c3,c4⟩];refine zgo mz fun W S=>?_;refine zcd (f) ?_;exact zrt mz
   ·rw [decF c4] at f
    rw [decF (fun q=>c4 q.2.2)];refine zgo mz fun W S=>?_;refine zcd (f) ?_;exact zrt mz
  ·rw [decF (fun q=>c3 q.2.1)]
   refine zgo mz fun W S=>?_;exact zrt mz
 ·rw [decF (fun q=>c1 q.1)]
  refine zgo mz fun W S=>?_;exact zrt mz
theorem xtr (l:PLay) (s:List Int) (r o:Int) (h:xeh l s) (hi:insS s r o):Fnc Tryz.prog 133 [layV false l,.sl false 1 (i64s s),plV (r,o)] (fun x obs=>x=.tup [.int .i64 (l.bases[r.toNat]!+o),.int .i64 0]∧obs=[]):=by
 refine zcf Tryz.prog 133 fun mz=>?_;have f:=xiu s r o;rw [decT hi] at f;have hb:=h.2.1;obtain⟨h0,h1,h2,h3⟩:=hi;obtain⟨k,rfl⟩:∃k:Nat,r=k:=⟨r.toNat,by omega⟩;rw [Int.toNat_natCast] at h3⊢;have h4:=xfs h (k:=k) (by omega);refine zgo mz fun W S=>?_;refine zcd (f) ?_;exact zrt mz
theorem yhn {a:Int} (h0:0≤a) (n:Int) (hn:0<n):a.tdiv n=a / n∧0≤a / n∧a / n≤a:=by
 refine⟨Int.tdiv_eq_ediv_of_nonneg h0,Int.ediv_nonneg h0 (by omega),Int.ediv_le_self n h0⟩
theorem yky {a:Int} (h0:0≤a) (n:Int) (hn:0<n):a.tmod n=a % n∧0≤a % n∧a % n<n:=⟨Int.tmod_eq_emod_of_nonneg h0,Int.emod_nonneg a (by omega),Int.emod_lt_of_pos a hn⟩
def xz0 (s:List Int) (seed:Int):PLay:=⟨(mkN s seed s.length).1,IntKind.u16.wrap (40503*seed)⟩
theorem xos (n:Nat):i64s (List.replicate n 0)=List.replicate n (V.int .i64 0):=by simp [i64s]
theorem ykb (s:List Int) (seed:Int) (h:okSz s) (h0:0≤seed) (h1:seed≤1073741824):Fnc Tryz.prog 46 [.sl false 1 (i64s s),.int .i64 seed] (fun x obs=>x=.tup [layV true (xz0 s seed),.int .i64 0]∧obs=[]):=by
 refine zcf Tryz.prog 46 fun mz=>?_;have f:=yax s h;have hs1:=h.2.1;have hs4:=h.2.2;have hn:(0:Int)<s.length:=by omega
 obtain⟨q1,q2,q3⟩:=yhn h0 s.length hn;obtain⟨q4,q5,q6⟩:=yhn h0 (50*s.length) (by omega);refine zgo mz fun W S=>?_;refine zcd (f) ?_;refine xay [0,1,4,6,7,36] (fun p:{p:Nat // p≤s.length}=>[(8,.int .i64 (mkN s seed p.1).2),(37,.int .i64 p.1)]) (fun p=>[⟨.box false 32,true,0,.agg [.nilS,.int .u16 0]⟩,⟨.row 3,true,0,.arr 1 (i64s (mkN s seed p.1).1)⟩,⟨.box false 32,true,0,.agg [.own 1 0,.int .u16 (40503*seed % 65536)]⟩]) (fun p=>s.length-p.1) (⟨0,by simp⟩) 3 (by simp only [go_sem];rfl) ?_ (by first|rfl|(simp only [go_sem];done)|(simp only [go_sem];simp [mkN,xos];done)) (by simp) (by first|rfl|(simp only [go_sem];done)) (by first|rfl|(simp only [go_sem];done)) (by first|rfl|(simp only [go_sem];done)|(simp only [mkN,xos];(try simp only [go_sem]);first|done|rfl)) ?_
 ·(simp only [go_sem];(try simp [mkN,xos]);done)
 intro J hJ
 rintro⟨k,hk0⟩
 by_cases hlt:k<s.length
 ·have hm:=mkOk h h0 k (by omega)
  have ha0:=hm.a0;have ha1:=hm.a1;have hle:=xox s seed k;obtain⟨r1,r2,r3⟩:=yky (a:=(k:Int)+seed) (by omega) s.length hn;have hz:=ydu h (k:=(((k:Int)+seed) % s.length).toNat) (by omega);have e1:(mkN s seed (k+1)).1=(mkN s seed k).1.set (((k:Int)+seed) % s.length).toNat (mkN s seed k).2:=by rw [xji];rfl
  have e2:(mkN s seed (k+1)).2=(mkN s seed k).2+(s[(((k:Int)+seed) % s.length).toNat]!+1+seed / (50*s.length) % 40):=by rw [xji];simp only [xui];omega
  have e3:i64s ((mkN s seed k).1.set (((k:Int)+seed) % s.length).toNat (mkN s seed k).2)=(i64s (mkN s seed k).1).set (((k:Int)+seed) % s.length).toNat (.int .i64 (mkN s seed k).2):=List.map_set;refine zst ?_;exact zn3 (hJ _ (⟨k+1,hlt⟩) (by first|omega|(dsimp only;omega)|(simp;omega))) (And.intro hlt (And.intro e1 (And.intro e2 (e3))))
 obtain rfl:k=s.length:=by omega
 refine zst ?_;exact zrt mz
theorem xei (l:PLay) (s:List Int) (x:Canon) (h:xeh l s):Fnc Tryz.prog 132 [layV false l,.sl false 1 (i64s s),xaf x] (fun y obs=>y=.tup [xau (rawS l s x).1,.int .i64 (rawS l s x).2]∧obs=[]):=by
 refine zcf Tryz.prog 132 fun mz=>?_;have f:=xo3 s x;have hb:=h.2.1;by_cases c:xgi s x;rotate_left
 ·rw [decF c] at f
  have hr:rawS l s x=(⟨0,0⟩,1):=by unfold rawS;rw [if_pos c]
  rw [hr];refine zgo mz fun W S=>?_;refine zcd (f) ?_;exact zrt mz
 rw [decT c] at f;obtain⟨t,v,r,o⟩:=x;by_cases c0:t=0
 ·subst c0
  have hr:rawS l s ⟨0,v,r,o⟩=(⟨0,v⟩,0):=by unfold rawS;rw [if_neg (not_not_intro c),if_pos rfl]
  rw [hr];refine zgo mz fun W S=>?_;refine zcd (f) ?_;exact zrt mz
 by_cases c2:t=2
 ·subst c2
  have hr:rawS l s ⟨2,v,r,o⟩=(⟨2,IntKind.u16.wrap (v+l.key)⟩,0):=by unfold rawS;rw [if_neg (not_not_intro c),if_neg (by simp),if_pos rfl]
  rw [hr];refine zgo mz fun W S=>?_;refine zcd (f) ?_;exact zrt mz
 have hr:rawS l s ⟨t,v,r,o⟩=(⟨1,IntKind.u16.wrap (l.bases[r.toNat]!+o)⟩,0):=by unfold rawS;rw [if_neg (not_not_intro c),if_neg c0,if_neg c2]
 rw [hr];unfold xgi at c;rw [if_neg (by simp [c0,c2])] at c;obtain⟨c3,c4,i0,i1,i2,i3⟩:=c;dsimp only at c3 c4 i0 i1 i2 i3;obtain⟨k,rfl⟩:∃k:Nat,r=k:=⟨r.toNat,by omega⟩;rw [Int.toNat_natCast] at i3⊢;have h4:=xfs h (k:=k) (by omega);refine zgo mz fun W S=>?_;refine zcd (f) ?_;exact zrt mz
theorem xyl (l:PLay) (s:List Int) (h:xeh l s):Fnc Tryz.prog 68 [layV false l,.sl false 1 (i64s s)] (fun x obs=>x=.bool true∧obs=[]):=by
 refine zcf Tryz.prog 68 fun mz=>?_;have f:=yax s h.1;have hb:=h.2.1;have hs4:=h.1.2.2;refine zgo mz fun W S=>?_;refine zcd (f) ?_;refine zlk [1,2,21,22] (fun p:{p:Nat // p≤s.length}=>[(23,.int .i64 p.1)]) (fun _=>[⟨.box false 32,true,0,layV false l⟩]) (fun p=>s.length-p.1) (⟨0,by simp⟩) 1 ?_;intro J hJ
 rintro⟨k,hk0⟩
 by_cases hlt:k<s.length
 ·have h4:=xfs h hlt
  have hJ0:=hJ;refine zst ?_;refine zlk [1,2,5,6,21,22,23,42,43] (fun p:{p:Nat // p≤k}=>[(44,.int .i64 p.1)]) (fun _=>[⟨.box false 32,true,0,layV false l⟩]) (fun p=>k-p.1) (⟨0,by simp⟩) 1 ?_;intro J hJ
  rintro⟨j,hj0⟩
  by_cases hlj:j<k
  ·have h5:=xfs h (k:=j) (by omega)
   have h6:=(h.2.2 k hlt).2.2 j hlj;have hg:(List.take k (i64s l.bases)).getD j V.junk=.int .i64 l.bases[j]!:=by
    simp [i64s,List.getD_eq_getElem?_getD,List.getElem?_take,hlj,show j<l.bases.length by omega]
   by_cases c:l.bases[j]!≤l.bases[k]!+s[k]!
   ·refine zsx hg ?_
    exact zn1 (hJ _ (⟨j+1,hlj⟩) (by first|omega|(dsimp only;omega)|(simp;omega))) hlj
   ·refine zsx hg ?_
    exact zn1 (hJ _ (⟨j+1,hlj⟩) (by first|omega|(dsimp only;omega)|(simp;omega))) hlj
  ·have hJ:=hJ0
   refine zst ?_;exact zn1 (hJ _ (⟨k+1,hlt⟩) (by first|omega|(dsimp only;omega)|(simp;omega))) hlt
 obtain rfl:k=s.length:=by omega
 refine zst ?_;exact zrt mz
theorem xsl (b:Bool):Fnc Tryz.prog 138 [.bool b] (fun x obs=>x=xau (xik b)∧obs=[]):=by
 refine zcf Tryz.prog 138 fun mz=>?_;cases b with
 |true=>
  refine zgo mz fun W S=>?_;refine ret mz [] ?_;(first|(simp only [go_sem];done)|(simp only [go_sem];((try dsimp only);(repeat' (refine And.intro ?_ ?_))<;>first|with_reducible rfl|(simp only [go_sem];done)|(simp only [go_sem];rfl)|(simp only [go_sem,xik];done)|(simp only [xik];(try simp only [go_sem]);first|done|rfl)|(simp only [go_sem];simp [xik];done)|(simp [xik];done)|rfl)))
 |false=>
  refine zgo mz fun W S=>?_;refine ret mz [] ?_;(first|(simp only [go_sem];done)|(simp only [go_sem];((try dsimp only);(repeat' (refine And.intro ?_ ?_))<;>first|with_reducible rfl|(simp only [go_sem];done)|(simp only [go_sem];rfl)|(simp only [go_sem,xik,c0];done)|(simp only [xik,c0];(try simp only [go_sem]);first|done|rfl)|(simp only [go_sem];simp [xik,c0];done)|(simp [xik,c0];done)|rfl)))
theorem xhm (l:PLay) (s:List Int) (p:Cell) (n:Int) (back:Bool) (h:xeh l s) (hp:xbh p) (hn:0≤n∧n≤65535):Fnc Tryz.prog 118 [layV false l,.sl false 1 (i64s s),xau p,.int .u16 n,.bool back] (fun x obs=>x=.tup [xau (xc4 l s p n back).1,.int .i64 (xc4 l s p n back).2]∧obs=[]):=by
 refine zcf Tryz.prog 118 fun mz=>?_;obtain⟨t,v⟩:=p;have hb:=h.2.1;obtain⟨p0,p1,p2,p3⟩:=hp;dsimp only at p0 p1 p2 p3;by_cases ht:t=1;rotate_left
 ·have hr:xc4 l s ⟨t,v⟩ n back=(c0,3):=if_pos ht
  rw [hr];refine zgo mz fun W S=>?_;exact zrh mz c0.eq_1
 subst ht;cases hq:resS l.bases s 0 v with
 |none=>
  have hr:xc4 l s ⟨1,v⟩ n back=(c0,4):=by simp [xc4,hq]
  have f:=xkx l s v h _ hq;dsimp only [Option.getD,Option.isSome,plV] at f;rw [hr];refine zgo mz fun W S=>?_;refine zcd (f) ?_;exact zrh mz c0.eq_1
 |some q=>
  obtain⟨r,o⟩:=q;have hr:xc4 l s ⟨1,v⟩ n back=if insS s r (offS back o n) then(⟨1,IntKind.u16.wrap (l.bases[r.toNat]!+(offS back o n))⟩,0) else(c0,4):=by simp [xc4,hq]
  have f:=xkx l s v h _ hq;dsimp only [Option.getD,Option.isSome,plV] at f;have hi:=(xjq h hq).1;obtain⟨i0,i1,i2,i3⟩:=hi;dsimp only at i0 i1 i2 i3;obtain⟨k,rfl⟩:∃k:Nat,r=k:=⟨r.toNat,by omega⟩;rw [Int.toNat_natCast] at i3 hr;have h4:=xfs h (k:=k) (by omega);have g:=xiu s k (offS back o n);by_cases c:insS s k (offS back o n)
  ·rw [if_pos c] at hr
   rw [decT c] at g;obtain⟨j0,j1,j2,j3⟩:=c;rw [Int.toNat_natCast] at j3;rw [hr];cases back with
   |true=>
    simp only [offS,if_true] at g j2 j3;rw [show(⟨1,IntKind.u16.wrap (l.bases[k]!+offS true o n)⟩:Cell)=⟨1,l.bases[k]!+(o-n)⟩ by simp only [offS,if_true];rw [xbs,xbv (by omega) (by omega)]];refine zgo mz fun W S=>?_;refine zcd (f) ?_;refine zcd (g) ?_;refine ret mz [] ?_;(first|(simp only [go_sem];done)|(simp only [go_sem];((try dsimp only);(repeat' (refine And.intro ?_ ?_))<;>first|with_reducible rfl|(simp only [go_sem];done)|(simp only [go_sem];rfl)|(simp only [go_sem,offS];done)|(simp only [offS];(try simp only [go_sem]);first|done|rfl)|(simp only [go_sem];simp [offS];done)|(simp [offS];done)|rfl)))
   |false=>
    simp only [offS,Bool.false_eq_true,if_false] at g j2 j3;rw [show(⟨1,IntKind.u16.wrap (l.bases[k]!+offS false o n)⟩:Cell)=⟨1,l.bases[k]!+(o+n)⟩ by simp only [offS,Bool.false_eq_true,if_false];rw [xbs,xbv (by omega) (by omega)]];refine zgo mz fun W S=>?_;refine zcd (f) ?_;refine zcd (g) ?_;refine ret mz [] ?_;(first|(simp only [go_sem];done)|(simp only [go_sem];((try dsimp only);(repeat' (refine And.intro ?_ ?_))<;>first|with_reducible rfl|(simp only [go_sem];done)|(simp only [go_sem];rfl)|(simp only [go_sem,offS];done)|(simp only [offS];(try simp only [go_sem]);first|done|rfl)|(simp only [go_sem];simp [offS];done)|(simp [offS];done)|rfl)))
  ·rw [if_neg c] at hr
   rw [decF c] at g;rw [hr];cases back with
   |true=>
    simp only [offS,if_true] at g;refine zgo mz fun W S=>?_;refine zcd (f) ?_;refine zcd (g) ?_;exact zrh mz c0.eq_1
   |false=>
    simp only [offS,Bool.false_eq_true,if_false] at g;refine zgo mz fun W S=>?_;refine zcd (f) ?_;refine zcd (g) ?_;exact zrh mz c0.eq_1
theorem yld (l:PLay) (s:List Int) (p:Cell) (n:Int) (h:xeh l s) (hp:xbh p):Fnc Tryz.prog 104 [layV false l,.sl false 1 (i64s s),xau p,.int .i64 n] (fun x obs=>x=.tup [.int .i64 (xdx l s p n).1,.int .i64 (xdx l s p n).2]∧obs=[]):=by
 refine zcf Tryz.prog 104 fun mz=>?_;obtain⟨t,v⟩:=p;have hb:=h.2.1;obtain⟨p0,p1,p2,p3⟩:=hp;dsimp only at p0 p1 p2 p3;by_cases ht:t=1;rotate_left
 ·have hr:xdx l s ⟨t,v⟩ n=(0,3):=if_pos ht
  rw [hr];refine zgo mz fun W S=>?_;exact zrt mz
 subst ht;cases hq:resS l.bases s 0 v with
 |none=>
  have hr:xdx l s ⟨1,v⟩ n=(0,4):=by simp [xdx,hq]
  have f:=xkx l s v h _ hq;dsimp only [Option.getD,Option.isSome,plV] at f;rw [hr];refine zgo mz fun W S=>?_;refine zcd (f) ?_;exact zrt mz
 |some q=>
  obtain⟨r,o⟩:=q;have hr:xdx l s ⟨1,v⟩ n=if n<0∨n>s[r.toNat]!-o then(0,4) else(v,0):=by simp [xdx,hq]
  have f:=xkx l s v h _ hq;dsimp only [Option.getD,Option.isSome,plV] at f;have hi:=(xjq h hq).1;obtain⟨i0,i1,i2,i3⟩:=hi;dsimp only at i0 i1 i2 i3;obtain⟨k,rfl⟩:∃k:Nat,r=k:=⟨r.toNat,by omega⟩;rw [Int.toNat_natCast] at i3 hr;have h4:=xfs h (k:=k) (by omega);by_cases c:n<0
  ·rw [if_pos (Or.inl c)] at hr
   rw [hr];refine zgo mz fun W S=>?_;refine zcd (f) ?_;exact zrt mz
  by_cases c2:n>s[k]!-o
  ·rw [if_pos (Or.inr c2)] at hr
   rw [hr];refine zgo mz fun W S=>?_;refine zcd (f) ?_;exact zrt mz
  ·rw [if_neg (by omega)] at hr
   rw [hr];refine zgo mz fun W S=>?_;refine zcd (f) ?_;exact zrt mz
theorem ykj (op b c:Int) (h:3≤op∧op≤13) (hb:0≤b∧b≤65535) (hc:0≤c∧c≤65535):Fnc Tryz.prog 139 [.int .i64 op,.int .u16 b,.int .u16 c] (fun x obs=>x=.tup [xau (numS op b c).1,.int .i64 (numS op b c).2]∧obs=[]):=by
 refine zcf Tryz.prog 139 fun mz=>?_;have hop:op=3∨op=4∨op=5∨op=8∨op=9∨op=10∨op=6∨op=7∨op=11∨op=12∨op=13:=by omega
 rcases hop with rfl|rfl|rfl|rfl|rfl|rfl|rfl|rfl|rfl|rfl|rfl<;>clear h
 ·rw [show numS 3 b c=(⟨0,IntKind.u16.wrap (b+c)⟩,0) from rfl]
  refine zgo mz fun W S=>?_;exact zrt mz
 ·rw [show numS 4 b c=(⟨0,IntKind.u16.wrap (b-c)⟩,0) from rfl]
  refine zgo mz fun W S=>?_;exact zrt mz
 ·rw [show numS 5 b c=(⟨0,IntKind.u16.wrap (b*c)⟩,0) from rfl]
  refine zgo mz fun W S=>?_;exact zrt mz
 ·rw [show numS 8 b c=(⟨0,band .u16 b c⟩,0) from rfl]
  refine zgo mz fun W S=>?_;exact zrt mz
 ·rw [show numS 9 b c=(⟨0,bor .u16 b c⟩,0) from rfl]
  refine zgo mz fun W S=>?_;exact zrt mz
 ·rw [show numS 10 b c=(⟨0,bxor .u16 b c⟩,0) from rfl]
  refine zgo mz fun W S=>?_;exact zrt mz
 ·by_cases c1:c=0
  ·subst c1
   rw [show numS 6 b 0=(c0,5) from rfl];refine zgo mz fun W S=>?_;exact zrh mz c0.eq_1
  ·obtain⟨q1,q2,q3⟩:=yhn hb.1 c (by omega)
   have hr:numS 6 b c=(if c=0 then(c0,5) else(⟨0,IntKind.u16.wrap (b.tdiv c)⟩,0)):=rfl;rw [hr,if_neg c1,q1,xbs,xbv (by omega) (by omega)];refine zgo mz fun W S=>?_;exact zrt mz
 ·by_cases c1:c=0
  ·subst c1
   rw [show numS 7 b 0=(c0,5) from rfl];refine zgo mz fun W S=>?_;exact zrh mz c0.eq_1
  ·obtain⟨q1,q2,q3⟩:=yky hb.1 c (by omega)
   have hr:numS 7 b c=(if c=0 then(c0,5) else(⟨0,b.tmod c⟩,0)):=rfl;rw [hr,if_neg c1,q1];refine zgo mz fun W S=>?_;exact zrt mz
 ·rw [show numS 11 b c=(⟨0,IntKind.u16.wrap (b*2 ^ min (c.tmod 16).toNat 16)⟩,0) from rfl]
  refine zgo mz fun W S=>?_;exact zrt mz
 ·rw [show numS 12 b c=(⟨0,b.fdiv (2 ^ min (c.tmod 16).toNat 16)⟩,0) from rfl]
  refine zgo mz fun W S=>?_;exact zrt mz
 ·rw [show numS 13 b c=(xik (decide (b<c)),0) from rfl]
  have f:=xsl (decide (b<c));refine zgo mz fun W S=>?_;refine zcd (f) ?_;exact zrt mz
theorem xko (l:PLay) (s:List Int) (b c:Cell) (h:xeh l s) (hb:xbh b) (hc:xbh c) (q1 q2:Option (Int×Int)) (h1:resS l.bases s 0 b.val=q1) (h2:resS l.bases s 0 c.val=q2):Fnc Tryz.prog 140 [layV false l,.sl false 1 (i64s s),xau b,xau c] (fun x obs=>x=.tup [plV (q1.getD (0,0)),plV (q2.getD (0,0)),.bool (q1.isSome && q2.isSome && decide ((q1.getD (0,0)).1=(q2.getD (0,0)).1))]∧obs=[]):=by
 refine zcf Tryz.prog 140 fun mz=>?_;obtain⟨t,v⟩:=b;obtain⟨t2,w⟩:=c;obtain⟨-,-,p2,p3⟩:=hb;obtain⟨-,-,p4,p5⟩:=hc;dsimp only at p2 p3 p4 p5 h1 h2;have f:=xkx l s v h _ h1;have g:=xkx l s w h _ h2;cases q1 with
 |none=>
  dsimp only [Option.getD,Option.isSome,plV] at f g⊢;refine zgo mz fun W S=>?_;refine zcd (f) ?_;refine zcd (g) ?_;exact zrt mz
 |some q1=>
  cases q2 with
  |none=>
   dsimp only [Option.getD,Option.isSome,plV] at f g⊢;refine zgo mz fun W S=>?_;refine zcd (f) ?_;refine zcd (g) ?_;exact zrt mz
  |some q2=>
   dsimp only [Option.getD,Option.isSome,plV] at f g⊢;by_cases e:q1.1=q2.1
   ·rw [decT e]
    refine zgo mz fun W S=>?_;refine zcd (f) ?_;refine zcd (g) ?_;exact zrt mz
   ·rw [decF e]
    refine zgo mz fun W S=>?_;refine zcd (f) ?_;refine zcd (g) ?_;exact zrt mz
end Go.Proofs.YtbgpfigkcpmnfaaGreat
