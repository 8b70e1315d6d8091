import Derived.Test.YthmjocibdepahaaGreatA34
import Derived.Test.YthmjocibdepahaaGreatA28
import Derived.Test.YthmjocibdepahaaGreatA45
import Derived.Test.YthmjocibdepahaaGreatA27
set_option linter.defProp false
set_option linter.unusedSimpArgs false
set_option linter.unusedVariables false
set_option maxHeartbeats 64000000
set_option maxRecDepth 100000
namespace Go.Proofs.YthmjocibdepahaaGreat
open Go Go.RowKit Rdn Rdn.Dp
def xm6:=aC 184
def xgq:=zcs 138
def xyu:=aC 139
theorem vJ {P:Program} {cx:Cx} {N:Nat} {Q:Exit→Act→World→Prop} {k:List It} {n:Nat} {t:List (Nat×V)} {ob:List Ob} (r:Nat) {f:Bool} {e g s:Nat} {q:List V} (q':List V) (hr:ob[r]?=some ⟨.rows f e,true,g,.arr s q⟩) (hs:SubVs q q') (hu:Unif s q') (h:Ev P cx N Q k ⟨n,t,ob.set r ⟨.rows f e,true,g,.arr s q'⟩⟩):Ev P cx N Q k ⟨n,t,ob⟩:=⟨fun hn E a w R=>h.h hn E a w (R.kind hr rfl rfl fun u ho=>by
 unfold OkO at ho⊢;obtain⟨h0,s',l,xs,h1,h3,h4,h5,h6,h7,h8⟩:=ho;have h1':=h1;injection h1 with e1 e2
 subst e1 e2;have hl:q'.length=q.length:=subVs_len hs;exact⟨rfl,_,_,xs,rfl,hu,h4,by rw [hl];exact h5,by rw [hl];exact h6,hs.rd h7,h8⟩)⟩
theorem xib {P:Program} {cx:Cx} {N:Nat} {Q:Exit→Act→World→Prop} {k:List It} {lr:List RO} {n:Nat} {t:List (Nat×V)} {ob:List Ob} (r:Nat) {f:Bool} {e g s:Nat} {q:List V} (q':List V) (hr:ob[r]?=some ⟨.rows f e,true,g,.arr s q⟩) (hs:SubVs q q') (hu:Unif s q') (h:EvR P cx N Q k lr ⟨n,t,ob.set r ⟨.rows f e,true,g,.arr s q'⟩⟩):EvR P cx N Q k lr ⟨n,t,ob⟩:=⟨fun hn E a w R=>h.h hn E a w (R.kind hr rfl rfl fun u ho=>by
 unfold OkO at ho⊢;obtain⟨h0,s',l,xs,h1,h3,h4,h5,h6,h7,h8⟩:=ho;have h1':=h1;injection h1 with e1 e2
 subst e1 e2;have hl:q'.length=q.length:=subVs_len hs;exact⟨rfl,_,_,xs,rfl,hu,h4,by rw [hl];exact h5,by rw [hl];exact h6,hs.rd h7,h8⟩)⟩
theorem xfu {l:List V} {x y:V} (h:SubV x y):SubVs (l++[x]) (l++[y]):=by
 induction l with
 |nil=>exact⟨h,trivial⟩
 |cons a l ih=>exact⟨SubV.refl a,ih⟩
theorem xme (γ:Nat→Option Nat) (l m:List V):V.nows γ (l++m)=(V.nows γ l∧V.nows γ m):=by
 refine propext ⟨fun h=>⟨nows_iff.2 fun x hx=>nows_iff.1 h x (List.mem_append.2 (.inl hx)),nows_iff.2 fun x hx=>nows_iff.1 h x (List.mem_append.2 (.inr hx))⟩,fun h=>nows_iff.2 fun x hx=>?_⟩;rcases List.mem_append.1 hx with hx|hx
 ·exact nows_iff.1 h.1 x hx
 ·exact nows_iff.1 h.2 x hx
theorem xr5 (f:Nat→Nat×Nat) (l m:List V):V.mvs f (l++m)=V.mvs f l++V.mvs f m:=by rw [rH,rH,rH,List.map_append]
attribute [go_sem] xme xr5
theorem yfd (u:Int) (x:Rdn.Result):SubV (.agg [.int .i64 4,.int .i64 u,.int .i64 0,.agg [.int .i64 0,.int .i64 0,.int .i64 0,.int .i64 0,.int .i64 0,.int .i64 0,.nilS,.nilS],eX x]) (dY (xhn u x)):=SubV.agg ⟨SubV.refl _,SubV.refl _,SubV.refl _,SubV.agg ⟨SubV.refl _,SubV.refl _,SubV.refl _,SubV.refl _,SubV.refl _,SubV.refl _,SubV.nil _ _,SubV.nil _ _,trivial⟩,SubV.refl _,trivial⟩
theorem okMach.up {p:PProg} {C:Int} {m:PMach} (h:okMach p C m) (hC:C≤1099511627776):okMach p 1099511627776 m:=h.le hC
theorem xns (C:Int) (hC:C≤1099511627776) (r:PRn) (h:okRun C r) (u:Nat) (hu:u<4) (n:Int) (hn:0≤n∧n≤65535) (hrl:r.record.length≤1000000):FncI Tryz.prog 184 (sD r) [.ptr 0 0 [] 0,.int .i64 u,.int .u16 n] (fun x ob=>x=.tup []∧ob=sD (xZ r u n)):=by
 have fv:=jB n true;have hx:=(kH n true).1;have fw:=yfc r.prog r.mach (h.mach.up hC) u hu (lM (nH n) [] true) hx.v hx.d hx.s (yf5 _ _ _);simp only [xZ,jU,xhn];refine dG xm6 fun W lent S=>?_;refine aA ?_;refine jC fv fw ?_;refine dS true [0,1,2] [] χ χ ?_;simp only [go_sem];refine vJ 1 ((r.record++[xhn u (lM (nH n) [] true)]).map dY) rfl (by rw [List.map_append];exact xfu (yfd u _)) (mQ (f:=dY) (s:=18) (fun _=>rfl) _) ?_;refine aK ?_;refine xev 3 xm6 ?_;exact fP
structure okCall (r:PRn) (q:Request):Prop where
 req:okReq q
 st:r.mach.thr[q.thread.toNat]!.state=2
theorem ybv (r:PRn) (q:Request):(lG r q).1.prog=r.prog∧(lG r q).1.mach=r.mach∧(lG r q).1.record=r.record:=by
 unfold lG
 let P:PRn×Rdn.Result→Prop:=fun z=>z.1.prog=r.prog∧z.1.mach=r.mach∧z.1.record=r.record
 refine aQ (P:=P) (fun _=>⟨rfl,rfl,rfl⟩) fun _=>?_;refine aQ (P:=P) (fun _=>⟨rfl,rfl,rfl⟩) fun _=>?_;refine aQ (P:=P) (fun _=>⟨rfl,rfl,rfl⟩) fun _=>?_;refine aQ (P:=P) (fun _=>⟨rfl,rfl,rfl⟩) fun _=>?_;refine aQ (P:=P) (fun _=>?_) fun _=>⟨rfl,rfl,rfl⟩;refine aQ (P:=P) (fun _=>⟨rfl,rfl,rfl⟩) fun _=>?_;exact aQ (P:=P) (fun _=>⟨rfl,rfl,rfl⟩) fun _=>⟨rfl,rfl,rfl⟩
theorem xoe (C:Int) (hC0:0≤C) (hC:C≤1099511627776) (r:PRn) (h:okRun C r) (q:Request) (k:okCall r q) (hrl:r.record.length≤900000):FncI Tryz.prog 138 (sD r) [.ptr 0 0 [] 0,eP q] (fun x ob=>x=.tup []∧ob=sD (callR r q)∧okRun C (callR r q)):=by
 have hal:=xk3 k.req;have hra:=k.req.ra;have fg:=xq2 r.locks h.lk q.args[0]!.val q.thread;have fp:=yr4 C r h q k.req;have hcall:=fun hx=>xhw hC0 h k.req hx;have hnr:=yaw h q;obtain⟨hp1,hp2⟩:=ybw h k.req;obtain⟨e1,e2,e3⟩:=ybv r q;unfold xf6 at hnr;unfold callR xf6 at hcall⊢;have hq:=k.req.F.thread;obtain⟨T,hT⟩:∃T:Nat,q.thread=T:=⟨q.thread.toNat,ω⟩;have hst:=k.st;rw [hT,Int.toNat_natCast] at hst;generalize lG r q=Z at fp hcall hp1 hp2 e1 e2 e3⊢;obtain⟨z,x⟩:=Z;dsimp only at fp hcall hp1 hp2 e1 e2 e3⊢;have hTn:q.thread.toNat=T:=ω;by_cases h9:q.call=9
 ·have ha1:q.args.length=1:=by rw [hal,h9];rfl
  obtain⟨w0,w1⟩:=hra _ (dJ (l:=q.args) (k:=0) ω);simp only [if_pos h9] at hcall hnr⊢;generalize rW r.locks q.args[0]!.val q.thread=G at fg hcall hnr⊢;obtain⟨gl,nx,gb⟩:=G;dsimp only at fg hcall hnr⊢;by_cases hn0:0≤nx;rotate_left
  ·rw [if_neg hn0] at hcall⊢
   refine dG xgq fun W lent S=>?_;refine aA ?_;refine aF (fg) ?_;refine xoa 0 [1,2] fp ?_;simp only [go_sem]
   repeat(first|refine And.intro ω ?_|refine And.intro rfl ?_)
   intro hR;have hok:=hcall hR;have hput:=xmx hC0 hp1 k.req hR;have ff:=xph z.prog z.mach (hp1.mach.up hC) T ω q k.req.F k.req.st hT x hp2.v hp2.d hR.v ⟨by rw [e2];exact hst,k.req.F.call.1,k.req.F.call.2,hal,hp2.s,by have:=xer hp2.d;omega,hR.d,hra⟩;have hzl:z.record.length≤900000:=by rw [e3];exact hrl
   have hpl:(xad z q x).record.length≤1000000:=by show(z.record++[_]).length≤_;rw [List.length_append,List.length_singleton];omega
   have fw:=fun N hN=>xns C hC (xad z q x) hput N hN 0 δ hpl;simp only [xad,hTn] at fw hok⊢;clear hput hcall hpl;refine aA ?_;refine aF (ff) ?_;refine vJ 1 ((z.record++[(⟨2,q.thread,0,q,x⟩:PEntry)]).map dY) rfl (by rw [List.map_append];exact SubVs.refl _) (mQ (f:=dY) (s:=18) (fun _=>rfl) _) ?_;refine aK ?_;refine dS true [0,1,2] [] χ χ ?_;simp only [go_sem];refine xev 3 xgq ?_;exact uJ hok
  rw [if_pos hn0] at hcall⊢;obtain⟨N,rfl⟩:∃N:Nat,nx=N:=⟨nx.toNat,ω⟩;rw [Int.toNat_natCast] at hcall⊢;have hn4:N<4:=ω;refine dG xgq fun W lent S=>?_;refine aA ?_;refine aF (fg) ?_;refine xoa 0 [1,2] fp ?_;simp only [go_sem]
  repeat(first|refine And.intro ω ?_|refine And.intro rfl ?_)
  intro hR;have hok:=hcall hR;have hput:=xmx hC0 hp1 k.req hR;have ff:=xph z.prog z.mach (hp1.mach.up hC) T ω q k.req.F k.req.st hT x hp2.v hp2.d hR.v ⟨by rw [e2];exact hst,k.req.F.call.1,k.req.F.call.2,hal,hp2.s,by have:=xer hp2.d;omega,hR.d,hra⟩;have hzl:z.record.length≤900000:=by rw [e3];exact hrl
  have hpl:(xad z q x).record.length≤1000000:=by show(z.record++[_]).length≤_;rw [List.length_append,List.length_singleton];omega
  have fw:=fun N hN=>xns C hC (xad z q x) hput N hN 0 δ hpl;simp only [xad,hTn] at fw hok⊢;clear hput hcall hpl;refine aA ?_;refine aF (ff) ?_;refine xib 1 ((z.record++[(⟨2,q.thread,0,q,x⟩:PEntry)]).map dY) rfl (by rw [List.map_append];exact SubVs.refl _) (mQ (f:=dY) (s:=18) (fun _=>rfl) _) ?_;refine aK ?_;refine pU 0 [1,2] (fw N hn4) ?_;refine bK ?_;refine aA ?_;refine dS true [0,1,2] [] χ χ ?_;simp only [go_sem];refine xev 3 xgq ?_;exact uJ hok
 simp only [if_neg h9] at hcall hnr⊢;rw [if_neg δ] at hcall⊢;refine dG xgq fun W lent S=>?_;refine aA ?_;refine xoa 0 [1,2] fp ?_;simp only [go_sem]
 repeat(first|refine And.intro ω ?_|refine And.intro rfl ?_)
 intro hR;have hok:=hcall hR;have hput:=xmx hC0 hp1 k.req hR;have ff:=xph z.prog z.mach (hp1.mach.up hC) T ω q k.req.F k.req.st hT x hp2.v hp2.d hR.v ⟨by rw [e2];exact hst,k.req.F.call.1,k.req.F.call.2,hal,hp2.s,by have:=xer hp2.d;omega,hR.d,hra⟩;have hzl:z.record.length≤900000:=by rw [e3];exact hrl
 have hpl:(xad z q x).record.length≤1000000:=by show(z.record++[_]).length≤_;rw [List.length_append,List.length_singleton];omega
 have fw:=fun N hN=>xns C hC (xad z q x) hput N hN 0 δ hpl;simp only [xad,hTn] at fw hok⊢;clear hput hcall hpl;refine aA ?_;refine aF (ff) ?_;refine vJ 1 ((z.record++[(⟨2,q.thread,0,q,x⟩:PEntry)]).map dY) rfl (by rw [List.map_append];exact SubVs.refl _) (mQ (f:=dY) (s:=18) (fun _=>rfl) _) ?_;refine aK ?_;refine dS true [0,1,2] [] χ χ ?_;simp only [go_sem];refine xev 3 xgq ?_;exact uJ hok
abbrev yb7 (r:PRn) (u:Value):List Ob:=[⟨.box true 100,true,0,.agg [dM false r.prog,eG false r.mach,jO r.out,nU false r.locks,.own 1 0,.lit u]⟩,⟨.rows true 245,true,0,.arr 18 (r.record.map dY)⟩]
theorem yxl (C:Int) (hC:C≤1099511627776) (r:PRn) (h:okRun C r) (u:Nat) (hu:u<4) (n:Int) (hn:0≤n∧n≤65535) (hrl:r.record.length≤1000000) (v0:Value):FncI Tryz.prog 184 (yb7 r v0) [.ptr 0 0 [] 0,.int .i64 u,.int .u16 n] (fun x ob=>x=.tup []∧ob=yb7 (xZ r u n) v0):=by
 have fv:=jB n true;have hx:=(kH n true).1;have fw:=yfc r.prog r.mach (h.mach.up hC) u hu (lM (nH n) [] true) hx.v hx.d hx.s (yf5 _ _ _);simp only [xZ,jU,xhn];refine dG xm6 fun W lent S=>?_;refine aA ?_;refine jC fv fw ?_;refine dS true [0,1] [] χ χ ?_;simp only [go_sem];refine vJ 1 ((r.record++[xhn u (lM (nH n) [] true)]).map dY) rfl (by rw [List.map_append];exact xfu (yfd u _)) (mQ (f:=dY) (s:=18) (fun _=>rfl) _) ?_;refine aK ?_;refine xev 2 xm6 ?_;exact fP
def mM (r:PRn) (l:PLocks):PRn:={r with locks:=l}
theorem yjs {r:PRn} {l:List Int} {k:Nat} (hk:k<l.length):zV r (l.take (k+1))=xZ (zV r (l.take k)) l[k]!.toNat 0:=by
 unfold zV;rw [List.take_succ_eq_append_getElem hk,List.foldl_append,getElem!_pos l k hk];rfl
theorem xp2:∀{l:List Int} {r:PRn},(zV r l).record.length=r.record.length+l.length
 |[],r=>rfl
 |u::l,r=>by
  rw [show zV r (u::l)=zV (xZ r u.toNat 0) l from rfl,xp2 (l:=l)];simp [xZ];omega
theorem yjt (t:Int) (r:PRn) (u:Nat):(xdr t r u).record.length≤r.record.length+1:=by
 unfold xdr;refine aQ (P:=fun z:PRn=>z.record.length≤r.record.length+1) (fun _=>?_) fun _=>Nat.le_succ _;show(r.record++[_]).length≤_;simp
theorem xp4 (t:Int) (r:PRn):∀k:Nat,(xat t r k).record.length≤r.record.length+k
 |0=>Nat.le_refl _
 |k+1=>by
  rw [xp6];have h1:=yjt t (xat t r k) k;have h2:=xp4 t r k;omega
theorem xg9 (C:Int) (hC:C≤1099511627776) (r:PRn) (h:okRun C r) (t:Nat) (ht:t<4) (hrl:r.record.length≤900000):FncI Tryz.prog 139 (sD r) [.ptr 0 0 [] 0,.int .i64 t] (fun x ob=>x=.tup []∧ob=sD (xau r t)):=by
 have fd:=ynd r.locks h.lk t;obtain⟨d1,d3⟩:=xoz h t;have fV:(xI r.locks t).2.length≤4:=(xip h.lk t 4).2.1;unfold xau;generalize xI r.locks t=D at fd d1 d3 fV⊢;obtain⟨l2,nx⟩:=D;dsimp only at fd d1 d3 fV⊢;rw [show({r with locks:=l2}:PRn)=mM r l2 from rfl] at d1⊢;have hr1l:(mM r l2).record.length≤900000:=hrl;refine dG xyu fun W lent S=>?_;refine aA ?_;refine aF (fd) ?_;refine dS true [0,1,2] [0,1,23,24,25] χ χ ?_;simp only [go_sem];refine bI [0,1,23,24] (fun q:{q:Nat // q≤nx.length}=>[(25,.int .i64 q.1)]) (fun q=>sD (zV (mM r l2) (nx.take q.1))) (fun q=>nx.length-q.1) (⟨0,ω⟩) 3 ?_;intro J hJ
 rintro⟨k,hk0⟩
 have hz:=xp3 d1 (l:=nx.take k) fun u hu=>d3 u (List.mem_of_mem_take hu);have hzl:=xp2 (r:=(mM r l2)) (l:=nx.take k);rw [List.length_take] at hzl;by_cases hlt:k<nx.length
 ·have hs:=yjs (r:=(mM r l2)) hlt
  have hu:=d3 _ (dJ (l:=nx) (k:=k) hlt);have fw:=xns C hC (zV (mM r l2) (nx.take k)) hz nx[k]!.toNat ω 0 δ ω;rw [Int.toNat_of_nonneg hu.1,←hs] at fw;refine aA ?_;refine pU 0 [1,2] (fw) ?_;refine bK ?_;refine aA ?_;refine dS true [0,1,2] [0,1,23,24,25] χ χ ?_;simp only [go_sem];refine lI 3 (hJ _ (⟨k+1,hlt⟩) ψ) rfl ξ ?_ φ φ ?_
  ·(first|rfl|(simp only [go_sem];done)|(simp only [go_sem];simp only [];done)|(simp only [];done)|(simp only [go_sem];simp [];done)|(simp [];done))
  ·(simp only [go_sem];(repeat' (refine And.intro ?_ ?_))<;>first|exact trivial|with_reducible rfl|(simp only [];done)|(simp only [];with_reducible rfl)|(simp [];done)|(simp [];omega)|(simp only [];rfl)|skip)
 obtain rfl:k=nx.length:=ω;rw [List.take_length] at hz hzl⊢;rw [Nat.min_self] at hzl;generalize zV (mM r l2) nx=z at hz hzl⊢;have hzj:=hz.jl;simp only [sD];refine aA ?_;refine bI [0,1,36,37] (fun q:{q:Nat // q≤4}=>[(38,.int .i64 q.1)]) (fun q=>sD (xat t z q.1)) (fun q=>4-q.1) (⟨0,ω⟩) 3 ?_;intro J hJ
 rintro⟨k,hk0⟩
 have hy:=xp5 hz t hk0;have hyl:=xp4 t z k;have hyj:=hy.jl;have hyn:=hy.mach.n;by_cases hlt:k<4
 ·have hs:=xp6 t z k
  generalize xat t z k=y at hy hyl hyj hyn hs⊢;by_cases hj:y.joins[k]! =t
  ·have hs2:xat t z (k+1)=(fun q:PRn=>{q with joins:=q.joins.set k (-1)}) (xZ y k y.mach.thr[t]!.code):=by rw [hs,xdr,if_pos hj,Int.toNat_natCast]
   simp only [sD];refine aA ?_;refine xwd 56 fun hu=>?_;have hu:=xgk (by simpa only [aV,V.wf,if_true,if_false,Nat.reduceEqDiff] using hu);have fw:=fun u=>yxl C hC y hy k hlt y.mach.thr[t]!.code hu ω u;have hwj:(xZ y k y.mach.thr[t]!.code).joins=y.joins:=rfl;generalize xZ y k y.mach.thr[t]!.code=w2 at fw hs2 hwj;refine yks (xl3 0 [1] 2 0 5 (lB:=[dM false w2.prog,eG false w2.mach,jO w2.out,nU false w2.locks,.own 1 0,.junk]) (x:=.tup []) (obB:=[⟨.rows true 245,true,0,.arr 18 (w2.record.map dY)⟩]) fw rfl rfl ξ rfl rfl rfl (fun u=>by simp only [go_sem]) (fun u=>by simp only [go_sem]) χ χ χ χ rfl (fun u=>by simp only [go_sem]) χ) rfl ?_;simp only [go_sem];refine aA ?_;refine dS true [0,1,2] [0,1,36,37,38] χ χ ?_;simp only [go_sem]
   trace_state
   refine lI 3 (hJ _ (⟨k+1,hlt⟩) ψ) rfl ξ ?_ φ (by first|rfl|(simp only [go_sem];done)|(simp only [hs2,hwj,List.map_set];(try simp only [go_sem]);first|done|rfl)) ?_
   ·(first|rfl|(simp only [go_sem];done)|(simp only [go_sem];simp only [hs2,hwj,List.map_set];done)|(simp only [hs2,hwj,List.map_set];done)|(simp only [go_sem];simp [hs2,hwj,List.map_set];done)|(simp [hs2,hwj,List.map_set];done))
   ·(simp only [go_sem];(repeat' (refine And.intro ?_ ?_))<;>first|exact trivial|with_reducible rfl|(simp only [hs2,hwj,List.map_set];done)|(simp only [hs2,hwj,List.map_set];with_reducible rfl)|(simp [hs2,hwj,List.map_set];done)|(simp [hs2,hwj,List.map_set];omega)|(simp only [hs2,hwj,List.map_set];rfl)|skip)
  ·have hs2:xat t z (k+1)=y:=by rw [hs,xdr,if_neg hj]
   simp only [sD];refine aA ?_;exact zn3 (hJ _ (⟨k+1,hlt⟩) ψ) hs2
 obtain rfl:k=4:=ω;simp only [sD];refine aA ?_;refine xev 3 xyu ?_;exact fP
theorem xwk {ks a b:List Int}:∀{n:Nat},(∀i,i<n→a[i]! =b[i]!)→lK ks a n=lK ks b n
 |0,_=>rfl
 |n+1,h=>by
  unfold lK;rw [xwk fun i hi=>h i ω,h n ω]
theorem xqz {α:Type} [Inhabited α] (f:α→Int) {l:List α} {i:Nat} (h:i<l.length):(l.map f)[i]! =f l[i]!:=by
 rw [getElem!_pos _ i (by rw [List.length_map];exact h),List.getElem_map,getElem!_pos l i h]
theorem xtt (p:PProg) (l:PLay) (x:PThr) {k i:Nat} (h:i<k):(uY p l x k)[i]! =jD l p.sizes x.regs[i]!:=by
 have hl:=xo1 p l x k;rw [getElem!_pos _ i ω];simp [uY]
theorem xuk {l:List Canon} {n:Int} (h:∀c∈l,iH c=true) (hn:(l.length:Int)≤n):fD l n=true:=xol (List.all_eq_true.2 h) hn
theorem xjw {p:PProg} {C:Int} {m:PMach} (h:okMach p C m) {t:Nat} (ht:t<4) {n:Int} (hn:1≤n) (hC:C+n≤1099511627776):okMach p (C+n) (uV p m t n).1∧(uV p m t n).2.thread=t∧(uV p m t n).2.data.length≤16∧((uV p m t n).2.stop=1→okReq (uV p m t n).2∧(uV p m t n).1.thr[t]!.state=2):=by
 have ok:=ye4 h ht hn;have hcq:=ye3 h ht hn;unfold uV;generalize vU p m t n=Z at ok hcq⊢;obtain⟨g,s⟩:=Z;dsimp only at ok hcq⊢;obtain⟨hr,s0,s1,rl,pc0,pc1,cn0,cn1,-,-,-,-,tr0,tr1⟩:=mP ok ht;unfold xcb;dsimp only;by_cases c2:s=2
 ·rw [if_pos c2]
  exact⟨ok,rfl,Nat.zero_le _,fun e=>by cases e⟩
 rw [if_neg c2];by_cases c1:s=1;rotate_left
 ·rw [if_neg c1]
  exact⟨ok,rfl,Nat.zero_le _,fun e=>absurd e c1⟩
 rw [if_pos c1];obtain⟨q1,q2,q3,q4⟩:=hcq c1;dsimp only at q1 q2 q3 q4;have hcr:=xu9 ok.prog q1 q2 q3;by_cases hc:uN p g.lay g.thr[t]! =0;rotate_left
 ·rw [if_pos hc]
  have hcx:uN p g.lay g.thr[t]! =6∨uN p g.lay g.thr[t]! =0:=by
   unfold uN;split
   ·exact .inl rfl
   split
   ·exact .inl rfl
   split
   ·exact .inl rfl
   ·exact .inr rfl
  exact⟨ok.set (Int.le_refl _) ok.mem t (xw1 (mP ok ht) 0 ω ω),rfl,Nat.zero_le _,fun e=>by cases e⟩
 rw [if_neg (not_not_intro hc)];have hfit:lK (kl (oZ p g.thr[t]!)) (xbj g.thr[t]!) (kl (oZ p g.thr[t]!)).length=true:=by
  unfold uN at hc;split at hc
  ·cases hc
  ·rename_i e
   cases hf:lK (kl (oZ p g.thr[t]!)) (xbj g.thr[t]!) (kl (oZ p g.thr[t]!)).length with
   |true=>rfl
   |false=>exact absurd hf e
 have hdat:0<iO (oZ p g.thr[t]!)→0≤g.thr[t]!.regs[1]!.val∧g.thr[t]!.regs[1]!.val+g.thr[t]!.regs[2]!.val≤512∧g.thr[t]!.regs[2]!.val≤16:=by
  intro hb;unfold uN at hc;split at hc
  ·cases hc
  ·rename_i e1
   split at hc
   ·cases hc
   ·rename_i e2
    have w:(yA g.lay p.sizes g.thr[t]!.regs[1]! g.thr[t]!.regs[2]!.val).2=0:=Classical.byContradiction fun q=>e2 ⟨ω,.inl q⟩;have w2:¬16<g.thr[t]!.regs[2]!.val:=fun q=>e2 ⟨ω,.inr q⟩;have w3:=yfj ok.lay w;omega
 clear hc;generalize hcc:oZ p g.thr[t]! =c at hcr hfit hdat⊢;have hk3:=xdx c;have hargs:∀x∈uY p g.lay g.thr[t]! (kl c).length,iH x=true∧kQ x:=by
  intro x hx;obtain⟨i,hi,rfl⟩:=List.mem_map.1 hx;exact xkb ok.lay (mG hr (by have:=List.mem_range.1 hi;omega))
 have fV:(if iO c=1 then wZ p g g.thr[t]! g.thr[t]!.regs[2]!.val.toNat else []).length≤16:=by
  refine aQ (P:=fun l:List Canon=>l.length≤16) (fun e=>?_) fun _=>Nat.zero_le _;rw [xv4];have:=hdat ω;omega
 have hdc:∀x∈(if iO c=1 then wZ p g g.thr[t]! g.thr[t]!.regs[2]!.val.toNat else []),iH x=true:=by
  refine aQ (P:=fun l:List Canon=>∀x∈l,iH x=true) (fun e=>?_) fun _ x hx=>by cases hx
  intro x hx;obtain⟨i,hi,rfl⟩:=List.mem_map.1 hx;have hd:=hdat ω;have:=List.mem_range.1 hi;exact(xkb ok.lay (xxw ok.mem ω ω)).1
 refine⟨ok,rfl,fV,fun _=>⟨?_,q4⟩⟩;generalize (if iO c=1 then wZ p g g.thr[t]! g.thr[t]!.regs[2]!.val.toNat else [])=d at fV hdc⊢;have hal:=xo1 p g.lay g.thr[t]! (kl c).length;have hdl':(d.length:Int)≤16:=ω;have F:FitQ ⟨t,1,0,g.thr[t]!.count,g.thr[t]!.pc,c,uY p g.lay g.thr[t]! (kl c).length,d⟩:=⟨⟨by show(0:Int)≤t;omega,by show(t:Int)≤3;omega⟩,by show(0:Int)≤1∧(1:Int)≤3;decide,by show(0:Int)≤0∧(0:Int)≤6;decide,⟨cn0,by show g.thr[t]!.count≤_;omega⟩,⟨pc0,pc1⟩,hcr,xuk (fun x hx=>(hargs x hx).1) (by rw [hal];omega),xuk hdc hdl'⟩;refine⟨F,rfl,?_,fun e=>?_,fun x hx=>(hargs x hx).2⟩
 ·unfold mY xE uG
  rw [xaj F];dsimp only;rw [List.length_map,hal,aN rfl,aN rfl];rw [Bool.true_and,Bool.true_and];refine(xwk fun i hi=>?_).trans hfit;rw [xqz Canon.tag (by rw [hal];exact hi),xtt p g.lay g.thr[t]! hi,ygy _ _ (mG hr ω),xbj,xqz Cell.tag ω]
 ·have h3:=xxh e
  dsimp only at e h3⊢;rw [xtt p g.lay g.thr[t]! (i:=2) ω];have hd:=hdat ω;have hv:=mG hr (k:=2) ω;unfold jD;split
  ·exact hd.2.2
  ·rename_i e0
   have hf2:pI (kl c)[2]! (xbj g.thr[t]!)[2]! =true:=by
    have:=hfit;rw [h3] at this;simp only [lK,Bool.and_eq_true] at this;exact this.2
   have hk:(kl c)[2]! =78:=by
    rcases xk6 e with rfl|rfl<;>rfl
   unfold pI at hf2;rw [if_pos hk,decide_eq_true_eq] at hf2
   exfalso
   apply e0;rw [←hf2];rw [xbj,xqz Cell.tag ω]
def xbc (r:PRn):List Int:=qF r.mach.thr 4
def rM (r:PRn) (c:PChoice):Int:=(xbc r)[(c.thread % (xbc r).length).toNat]!
def rJ (c:PChoice):Int:=1+c.branches % 64
def rO (t:Int):PEntry:=⟨3,t,0,⟨0,0,0,0,0,0,[],[]⟩,⟨⟨0,0,0,0⟩,[],0,false⟩⟩
def gI (t n:Int) (q:Request):PEntry:=⟨1,t,n,q,⟨⟨0,0,0,0⟩,[],0,false⟩⟩
def xd9 (r:PRn) (t:Int):PRn:={r with mach:=zD r.mach t.toNat,record:=r.record++[rO t]}
def xcg (r:PRn) (t n:Int):PRn:={r with mach:=(uV r.prog r.mach t.toNat n).1,record:=r.record++[gI t n (uV r.prog r.mach t.toNat n).2]}
def uQ (r:PRn) (c:PChoice) (t:Int):PRn:=if c.signal=true∧xck r.mach t.toNat then xd9 r t else r
noncomputable def nx3 (r:PRn) (q:Request):PRn:=if q.stop=1 then callR r q else r
def nx4 (r:PRn) (t:Int):PRn:=if r.mach.thr[t.toNat]!.state=4 then xau r t else r
noncomputable def xjb (r:PRn) (t n:Int):PRn:=nx4 (nx3 (xcg r t n) (uV r.prog r.mach t.toNat n).2) t
noncomputable def xfs (r:PRn) (c:PChoice):PRn:=xjb (uQ r c (rM r c)) (rM r c) (rJ c)
def xc4 (r:PRn):Int:=if(xbc r).length=0 then 15 else if r.record.length>192 then 3 else 0
theorem xrb (c:PChoice):1≤rJ c∧rJ c≤64:=by unfold rJ;omega
theorem xrc {r:PRn} (h:¬(xbc r).length=0) (c:PChoice):0≤rM r c∧rM r c<4∧r.mach.thr[(rM r c).toNat]!.state=1:=by
 have h0:=Int.emod_nonneg c.thread (show((xbc r).length:Int)≠0 by omega);have h1:=Int.emod_lt_of_pos c.thread (show(0:Int)<(xbc r).length by omega);exact ysp (dJ (l:=xbc r) ω)
theorem ydy {m:PMach} {t:Nat} (ht:t<m.thr.length):(zD m t).thr[t]!.state=m.thr[t]!.state:=by
 unfold zD PMach.setT;dsimp only;rw [xf0 ht]
theorem ydx {r:PRn} {C:Int} (h:okRun C r) {t:Int} (h0:0≤t) (h1:t<4) (hc:xck r.mach t.toNat):okRun C (xd9 r t):=
 ⟨yus h.mach ω hc,h.out,h.lk,h.jl,h.jr,fun e he=>by
  rcases List.mem_append.1 he with he|he
  ·exact h.rc e he
  ·obtain rfl:=List.mem_singleton.1 he
   exact Nat.zero_le _⟩
theorem okRun.le {r:PRn} {C D:Int} (h:okRun C r) (hc:C≤D):okRun D r:=⟨h.mach.le hc,h.out,h.lk,h.jl,h.jr,h.rc⟩
theorem xnh {r:PRn} {C:Int} (h:okRun C r) {t:Int} (h0:0≤t) (h1:t<4) {n:Int} (hn:1≤n) (hC:C+n≤1099511627776):okRun (C+n) (xcg r t n):=by
 obtain⟨k1,k2,k3,k4⟩:=xjw h.mach (t:=t.toNat) ω hn hC;refine⟨k1,h.out,h.lk,h.jl,h.jr,fun e he=>?_⟩;rcases List.mem_append.1 he with he|he
 ·exact h.rc e he
 ·obtain rfl:=List.mem_singleton.1 he
  exact k3
theorem yb2 {r:PRn} {C:Int} (h:okRun C r) (c:PChoice) {t:Int} (h0:0≤t) (h1:t<4) (hs:r.mach.thr[t.toNat]!.state=1):okRun C (uQ r c t)∧(uQ r c t).mach.thr[t.toNat]!.state=1∧(uQ r c t).record.length≤r.record.length+1:=by
 unfold uQ;refine aQ (P:=fun z:PRn=>okRun C z∧z.mach.thr[t.toNat]!.state=1∧z.record.length≤r.record.length+1) (fun e=>⟨ydx h h0 h1 e.2,?_,?_⟩) fun _=>⟨h,hs,ω⟩
 ·show(zD r.mach t.toNat).thr[t.toNat]!.state=1
  rw [ydy (by have:=h.mach.n;omega)];exact hs
 ·show(r.record++[_]).length≤_
  simp
theorem yps {r:PRn} {C:Int} (h:okRun C r) (t:Int):okRun C (nx4 r t):=by
 unfold nx4;exact aQ (P:=okRun C) (fun _=>yjv h t) fun _=>h
theorem xk7 (r:PRn) (q:Request):(callR r q).record.length≤r.record.length+2:=by
 have e:=(ybv r q).2.2;unfold callR;refine aQ (P:=fun z:PRn=>z.record.length≤r.record.length+2) (fun _=>?_) fun _=>?_
 ·show((((lG r q).1.record++[_]):List PEntry)++[_]).length≤_
  rw [e];simp
 ·show((lG r q).1.record++[_]).length≤_
  rw [e];simp
structure rngO (o:Rdn.Outside):Prop where
 c:∀x∈o.clock,0≤x∧x≤65535
 r:∀x∈o.random,0≤x∧x≤65535
 i:∀w∈o.inputs,∀x∈w,0≤x∧x≤65535
 f:∀w∈o.files.data,∀x∈w,kQ x
theorem yqs {o:Rdn.Outside} (h:(jO o).wf):rngO o:=by
 simp only [jO,owV,lC,bD,V.wf,V.wfs,lW] at h;obtain⟨h1,h2,h3,h4,-⟩:=h;exact⟨fun x hx=>xgk (h1.1 x hx),fun x hx=>xgk (h2.1 x hx),fun w hw x hx=>xgk ((h3.1 w hw).1 x hx),fun w hw x hx=>xoi ((h4.1.1 w hw).1 x hx)⟩
theorem xd5 {c:Canon} {d:List Canon} (ok:Bool) (hc:ok=true→kQ c) (hd:∀x∈d,kQ x):rngR (lM c d ok):=by
 cases ok with
 |true=>exact⟨hc rfl,hd⟩
 |false=>exact⟨by show(0:Int)≤65535∧(65535:Int)≤65535;decide,fun x hx=>by cases hx⟩
theorem xwg {l:List Int} (h:∀x∈l,0≤x∧x≤65535):kQ (pR l).2.1:=by
 unfold pR;refine aQ (P:=fun z:List Int×Canon×Bool=>kQ z.2.1) (fun _=>by show(0:Int)≤0∧(0:Int)≤65535;decide) fun e=>?_;exact h _ (dJ (l:=l) (k:=0) ω)
theorem xc5:∀x∈([]:List Canon),kQ x:=fun x hx=>by cases hx
theorem ylx {l:List (List Canon)} {P:Canon→Prop} (h:∀w∈l,∀x∈w,P x) (k:Nat):∀x∈l[k]!,P x:=by
 by_cases e:k<l.length
 ·exact h _ (dJ e)
 ·intro x hx
  rw [List.getElem!_eq_getElem?_getD,List.getElem?_eq_none ω] at hx;cases hx
theorem yjc {o:Rdn.Outside} (h:rngO o) (q:Request):rngR (fA o q).2:=by
 unfold fA
 let P:Rdn.Outside×Rdn.Result→Prop:=fun z=>rngR z.2
 refine aQ (P:=P) (fun _=>xd5 _ (fun _=>xjc _) xc5) fun _=>?_;refine aQ (P:=P) (fun _=>xd5 _ (fun _=>xjc _) ?_) fun _=>?_
 ·unfold kR
  refine aQ (P:=fun z:Files×List Canon×Bool=>∀x∈z.2.1,kQ x) (fun _=>?_) fun _=>xc5;intro x hx;exact ylx h.f _ x (List.mem_of_mem_drop (List.mem_of_mem_take hx))
 refine aQ (P:=P) (fun _=>xd5 _ (fun _=>⟨by show 0≤IntKind.u16.wrap _;rw [uD];omega,by show IntKind.u16.wrap _≤65535;rw [uD];omega⟩) xc5) fun _=>?_;refine aQ (P:=P) (fun _=>xd5 _ (fun _=>by show(0:Int)≤0∧(0:Int)≤65535;decide) xc5) fun _=>?_;refine aQ (P:=P) (fun _=>xd5 _ (fun _=>by show(0:Int)≤0∧(0:Int)≤65535;decide) xc5) fun _=>?_;refine aQ (P:=P) (fun _=>xd5 _ (fun _=>xwg h.c) xc5) fun _=>?_;refine aQ (P:=P) (fun _=>xd5 _ (fun _=>xwg h.r) xc5) fun _=>?_;refine aQ (P:=P) (fun _=>xd5 _ (fun _=>xjc _) xc5) fun _=>?_;refine aQ (P:=P) (fun _=>xd5 _ (fun _=>xjc _) ?_) fun _=>⟨by show(0:Int)≤65535∧(65535:Int)≤65535;decide,xc5⟩;unfold jY;refine aQ (P:=fun z:List (List Int)×List Canon×Bool=>∀x∈z.2.1,kQ x) (fun _=>xc5) fun e=>?_;intro x hx;obtain⟨v,hv,rfl⟩:=List.mem_map.1 hx;exact h.i _ (dJ (l:=o.inputs) (k:=q.args[0]!.val.toNat) ω) v (List.mem_of_mem_take hv)
theorem xmp {r:PRn} {C:Int} (h:okRun C r) (ho:rngO r.out) {q:Request} (k:okReq q):rngR (lG r q).2:=by
 unfold lG
 let P:PRn×Rdn.Result→Prop:=fun z=>rngR z.2
 have val:=fun n ok=>(kH n ok).2;have spn:∀n ok (s:Int),rngR {jU n ok with spawn:=s}:=fun n ok s=>⟨(val n ok).v,(val n ok).d⟩;have wt:∀n ok (w:Bool),rngR {jU n ok with wait:=w}:=fun n ok s=>⟨(val n ok).v,(val n ok).d⟩;by_cases h0:q.call=0∨q.call=12∨q.call=15
 ·rw [if_pos h0];exact val 0 true
 rw [if_neg h0];by_cases h8:q.call=8
 ·rw [if_pos h8];exact wt 0 _ _
 rw [if_neg h8];by_cases h9:q.call=9
 ·rw [if_pos h9];exact val 0 _
 rw [if_neg h9];by_cases h10:q.call=10
 ·rw [if_pos h10]
  exact aQ (P:=rngR) (fun _=>spn _ true _) fun _=>val 0 false
 rw [if_neg h10];by_cases h11:q.call=11
 ·rw [if_pos h11]
  refine aQ (P:=P) (fun _=>val 0 false) fun _=>?_;exact aQ (P:=P) (fun _=>val (xdw r q).code true) fun _=>wt 0 true true
 rw [if_neg h11,xs9 (ycr h k h0 h8 h9 h10 h11)];exact yjc ho q
theorem yb3 {r:PRn} {C:Int} (hC:0≤C) (h:okRun C r) (ho:rngO r.out) {q:Request} (k:q.stop=1→okReq q):okRun C (nx3 r q):=by
 unfold nx3;exact aQ (P:=okRun C) (fun e=>xhw hC h (k e) (xmp h ho (k e))) fun _=>h
theorem ypf {r:PRn} {C:Int} (hC:0≤C) (h:okRun C r) (ho:rngO r.out) {t:Int} (h0:0≤t) (h1:t<4) {n:Int} (hn:1≤n∧n≤64) (hC2:C+64≤1099511627776):okRun (C+64) (xjb r t n):=by
 have k:=xjw h.mach (t:=t.toNat) ω hn.1 ω;refine yps (yb3 ω ((xnh h h0 h1 hn.1 ω).le ω) ho fun e=>(k.2.2.2 e).1) t
theorem yvp {r:PRn} {C:Int} (hC:0≤C) (h:okRun C r) (ho:rngO r.out) (c:PChoice) (he:xc4 r=0) (hC2:C+64≤1099511627776):okRun (C+64) (xfs r c):=by
 have hl:¬(xbc r).length=0:=fun e=>by unfold xc4 at he;rw [if_pos e] at he;cases he
 obtain⟨t0,t1,ts⟩:=xrc hl c;obtain⟨k1,k2,k3⟩:=yb2 h c t0 t1 ts;have ho2:rngO (uQ r c (rM r c)).out:=by
  unfold uQ;exact aQ (P:=fun z:PRn=>rngO z.out) (fun _=>ho) fun _=>ho
 exact ypf hC k1 ho2 t0 t1 (xrb c) hC2
def xyi:=aC 134
def nV:=aC 63
abbrev xce (r:PRn):V:=.agg [dM false r.prog,eG false r.mach,jO r.out,nU false r.locks,.sl false 18 (r.record.map dY),.sl false 1 (bH r.joins)]
theorem yi9 (r:PRn) (h1:r.record.length≤1000000) (h2:r.joins.length=4):Fnc Tryz.prog 134 [xce r] (fun x obs=>x=.agg [dM false r.prog,eG false r.mach,jO r.out,nU false r.locks,.own 0 0,.own 1 0]∧obs=[⟨.row 245,true,0,.arr 18 (r.record.map dY)⟩,⟨.row 3,true,0,.arr 1 (bH r.joins)⟩]):=by
 refine aI xyi fun W S=>?_;refine xbd xyi [3,2] ?_;exact fP
theorem xng (t:Int):SubV (.agg [.int .i64 3,.int .i64 t,.int .i64 0,.agg [.int .i64 0,.int .i64 0,.int .i64 0,.int .i64 0,.int .i64 0,.int .i64 0,.nilS,.nilS],.agg [.agg [.int .u8 0,.int .u16 0,.int .i64 0,.int .i64 0],.nilS,.int .i64 0,.bool false]]) (dY (rO t)):=SubV.agg ⟨SubV.refl _,SubV.refl _,SubV.refl _,SubV.agg ⟨SubV.refl _,SubV.refl _,SubV.refl _,SubV.refl _,SubV.refl _,SubV.refl _,SubV.nil _ _,SubV.nil _ _,trivial⟩,SubV.agg ⟨SubV.refl _,SubV.nil _ _,SubV.refl _,SubV.refl _,trivial⟩,trivial⟩
theorem xae (t n:Int) (q:Request):SubV (.agg [.int .i64 1,.int .i64 t,.int .i64 n,eP q,.agg [.agg [.int .u8 0,.int .u16 0,.int .i64 0,.int .i64 0],.nilS,.int .i64 0,.bool false]]) (dY (gI t n q)):=SubV.agg ⟨SubV.refl _,SubV.refl _,SubV.refl _,SubV.refl _,SubV.agg ⟨SubV.refl _,SubV.nil _ _,SubV.refl _,SubV.refl _,trivial⟩,trivial⟩
theorem xaf {l:List PEntry} {e:PEntry} {x:V} (h:SubV x (dY e)):SubVs (l.map dY++[x]) ((l++[e]).map dY):=by rw [List.map_append];exact xfu h
structure Hd (p:Prop):Prop where
 h:p
abbrev yd3:V:=.agg [.agg [.nilS,.nilS,.nilS],.agg [.agg [.nilS,.int .u16 0],.agg [.nilS,.nilS],.nilS],.agg [.nilS,.nilS,.nilS,.agg [.nilS,.nilS],.nilS],.agg [.nilS,.nilS],.nilS,.nilS]
theorem ypt (C:Int) (hC0:0≤C) (hC:C+64≤1099511627776) (r:PRn) (h:okRun C r) (ho:rngO r.out) (hl:r.record.length≤400000) (c:PChoice):Fnc Tryz.prog 63 [xce r,xke c] (fun x obs=>x=.tup [if xc4 r=0 then xce (xfs r c) else yd3,.int .i64 (xc4 r)]∧obs=[]):=by
 refine Fnc.low ?_;have fr:=ysq r.mach.thr h.mach.n;unfold xc4;have hln:(xbc r).length≤4:=ych _ _;have hT:=fun e=>xrc (r:=r) e c;unfold xfs rM at *;generalize hrd:xbc r=rd at hln hT⊢;rw [show qF r.mach.thr 4=rd from hrd] at fr;clear hrd;by_cases l0:rd.length=0
 ·rw [if_pos l0,if_neg δ]
  exact eY nV fr
 rw [if_neg l0];by_cases l1:r.record.length>192
 ·rw [if_pos l1,if_neg δ]
  exact eY nV fr
 rw [if_neg l1,if_pos rfl];have fm1:=xs5 c.thread rd.length ω;have fm2:=xs5 c.branches 64 δ;have hm0:=Int.emod_nonneg c.thread (show(rd.length:Int)≠0 by omega);have hm1:=Int.emod_lt_of_pos c.thread (show(0:Int)<rd.length by omega);have hT:=hT l0;have fc:=yi9 r ω h.jl;obtain⟨T,hTe⟩:∃T:Nat,rd[(c.thread % rd.length).toNat]! =T:=⟨_,(Int.toNat_of_nonneg hT.1).symm⟩;rw [hTe] at hT⊢;have hT4:T<4:=ω;have hn:=h.mach.n;have fcan:=xue r.mach hn T hT4;rw [Int.toNat_natCast] at hT;unfold uQ;rw [Int.toNat_natCast];have hnr:=xrb c;by_cases hsig:c.signal=true∧xck r.mach T
 ·skip
  rw [if_pos hsig];rw [aN hsig.2] at fcan;have hc1:=hsig.1;have fd:=yiz r.prog r.mach h.mach T hT4 hsig.2;have k1:=ydx h hT.1 hT.2.1 (by rw [Int.toNat_natCast];exact hsig.2);have ks:(zD r.mach T).thr[T]!.state=1:=by rw [ydy ω];exact hT.2.2
  have kl1:(xd9 r T).record.length≤193:=by show(r.record++[_]).length≤_;rw [List.length_append,List.length_singleton];omega
  have ho1:rngO (xd9 r T).out:=ho;have kt:=xjw k1.mach (t:=T) hT4 hnr.1 ω;have ft:=yek r.prog (zD r.mach T) (k1.mach.up ω) T hT4 (rJ c) hnr ks;have k2:=(xnh k1 hT.1 hT.2.1 hnr.1 ω).le (show C+rJ c≤C+64 by omega);have kl2:(xcg (xd9 r T) T (rJ c)).record.length≤194:=by show((xd9 r T).record++[_]).length≤_;rw [List.length_append,List.length_singleton];omega
  have ho2:rngO (xcg (xd9 r T) T (rJ c)).out:=ho;unfold xjb;simp only [xcg,xd9,Int.toNat_natCast] at kt k2 kl2 ho2⊢;generalize uV r.prog (zD r.mach T) T (rJ c)=Z at ft kt k2 kl2 ho2⊢;obtain⟨g,q⟩:=Z;dsimp only at ft kt k2 kl2 ho2⊢;obtain⟨-,hqt,-,hq⟩:=kt;unfold rJ at ft hnr k2 kl2⊢;by_cases st:q.stop=1
  ·obtain⟨hq1,hq2⟩:=hq st
   have hok:=xhw ω k2 hq1 (xmp k2 ho2 hq1);have fcall:FncI Tryz.prog 138 (sD (⟨r.prog,g,r.out,r.locks,(r.record++[rO T])++[gI T (1+c.branches % 64) q],r.joins⟩:PRn)) [.ptr 0 0 [] 0,eP q] (fun x o=>x=.tup []∧o=sD (callR (⟨r.prog,g,r.out,r.locks,(r.record++[rO T])++[gI T (1+c.branches % 64) q],r.joins⟩:PRn) q)):=(xoe (C+64) ω ω (⟨r.prog,g,r.out,r.locks,(r.record++[rO T])++[gI T (1+c.branches % 64) q],r.joins⟩:PRn) k2 q ⟨hq1,by rw [hqt,Int.toNat_natCast];exact hq2⟩ (Nat.le_trans kl2 δ)).mono fun x o e=>⟨e.1,e.2.1⟩;have hcl:=xk7 (⟨r.prog,g,r.out,r.locks,(r.record++[rO T])++[gI T (1+c.branches % 64) q],r.joins⟩:PRn) q;rw [show nx3 (⟨r.prog,g,r.out,r.locks,(r.record++[rO T])++[gI T (1+c.branches % 64) q],r.joins⟩:PRn) q=callR (⟨r.prog,g,r.out,r.locks,(r.record++[rO T])++[gI T (1+c.branches % 64) q],r.joins⟩:PRn) q from if_pos st];generalize callR (⟨r.prog,g,r.out,r.locks,(r.record++[rO T])++[gI T (1+c.branches % 64) q],r.joins⟩:PRn) q=r3 at fcall hok hcl⊢;dsimp only at hcl;have sth:Hd (q.stop=1):=⟨st⟩;clear st;clear hq;have hn3:=hok.mach.n;have fe:=xg9 (C+64) ω r3 hok T hT4 ω;unfold nx4;rw [Int.toNat_natCast];by_cases en:r3.mach.thr[T]!.state=4
   ·rw [if_pos en]
    generalize xau r3 T=r4 at fe⊢;refine qK nV fr fm1 fun W S=>?_;refine aY hTe ?_;refine aF (fm2) ?_;refine oI (fc) ?_;refine bY ?_;refine iI 3 rfl ?_;refine aK ?_;refine iI 4 rfl ?_;refine aK ?_;refine aY hc1 ?_;refine jC fcan fd ?_;refine xib 3 ((r.record++[rO T]).map dY) rfl (by rw [List.map_append];exact xfu (xng _)) (mQ (f:=dY) (s:=18) (fun _=>rfl) _) ?_;refine aK ?_;refine bZ (ft) ?_;refine aA ?_;refine dS false [2,3,4,5,8] [4,7,9,11,87] χ χ ?_;simp only [go_sem];refine vJ 1 (((r.record++[rO T])++[gI T (1+c.branches % 64) q]).map dY) rfl (xaf (xae _ _ _)) (mQ (f:=dY) (s:=18) (fun _=>rfl) _) ?_;refine aK ?_;have st:=sth.h;refine aA ?_;refine pU 3 [1,2] (fcall) ?_;refine bK ?_;refine aA ?_;refine pU 3 [1,2] (fe) ?_;refine bK ?_;refine aA ?_;refine fG 1 rfl (bV _ _) ?_;refine aK ?_;refine fG 2 rfl (bV _ _) ?_;refine aK ?_;exact aU nV
   ·rw [if_neg en]
    refine qK nV fr fm1 fun W S=>?_;refine aY hTe ?_;refine aF (fm2) ?_;refine oI (fc) ?_;refine bY ?_;refine iI 3 rfl ?_;refine aK ?_;refine iI 4 rfl ?_;refine aK ?_;refine aY hc1 ?_;refine jC fcan fd ?_;refine xib 3 ((r.record++[rO T]).map dY) rfl (by rw [List.map_append];exact xfu (xng _)) (mQ (f:=dY) (s:=18) (fun _=>rfl) _) ?_;refine aK ?_;refine bZ (ft) ?_;refine aA ?_;refine dS false [2,3,4,5,8] [4,7,9,11,87] χ χ ?_;simp only [go_sem];refine vJ 1 (((r.record++[rO T])++[gI T (1+c.branches % 64) q]).map dY) rfl (xaf (xae _ _ _)) (mQ (f:=dY) (s:=18) (fun _=>rfl) _) ?_;refine aK ?_;have st:=sth.h;refine aA ?_;refine pU 3 [1,2] (fcall) ?_;refine bK ?_;refine aA ?_;refine fG 1 rfl (bV _ _) ?_;refine aK ?_;refine fG 2 rfl (bV _ _) ?_;refine aK ?_;exact aU nV
  rw [show nx3 (⟨r.prog,g,r.out,r.locks,(r.record++[rO T])++[gI T (1+c.branches % 64) q],r.joins⟩:PRn) q=(⟨r.prog,g,r.out,r.locks,(r.record++[rO T])++[gI T (1+c.branches % 64) q],r.joins⟩:PRn) from if_neg st];have sth:Hd (¬q.stop=1):=⟨st⟩;clear st;clear hq;have hn3:=k2.mach.n;dsimp only at hn3;have fe:=xg9 (C+64) ω (⟨r.prog,g,r.out,r.locks,(r.record++[rO T])++[gI T (1+c.branches % 64) q],r.joins⟩:PRn) k2 T hT4 (Nat.le_trans kl2 δ);unfold nx4;rw [Int.toNat_natCast];dsimp only;by_cases en:g.thr[T]!.state=4
  ·rw [if_pos en]
   generalize xau (⟨r.prog,g,r.out,r.locks,(r.record++[rO T])++[gI T (1+c.branches % 64) q],r.joins⟩:PRn) T=r4 at fe⊢;refine qK nV fr fm1 fun W S=>?_;refine aY hTe ?_;refine aF (fm2) ?_;refine oI (fc) ?_;refine bY ?_;refine iI 3 rfl ?_;refine aK ?_;refine iI 4 rfl ?_;refine aK ?_;refine aY hc1 ?_;refine jC fcan fd ?_;refine xib 3 ((r.record++[rO T]).map dY) rfl (by rw [List.map_append];exact xfu (xng _)) (mQ (f:=dY) (s:=18) (fun _=>rfl) _) ?_;refine aK ?_;refine bZ (ft) ?_;refine aA ?_;refine dS false [2,3,4,5,8] [4,7,9,11,87] χ χ ?_;simp only [go_sem];refine vJ 1 (((r.record++[rO T])++[gI T (1+c.branches % 64) q]).map dY) rfl (xaf (xae _ _ _)) (mQ (f:=dY) (s:=18) (fun _=>rfl) _) ?_;refine aK ?_;have st:=sth.h;refine aA ?_;refine pU 3 [1,2] (fe) ?_;refine bK ?_;refine aA ?_;refine fG 1 rfl (bV _ _) ?_;refine aK ?_;refine fG 2 rfl (bV _ _) ?_;refine aK ?_;exact aU nV
  ·rw [if_neg en]
   refine qK nV fr fm1 fun W S=>?_;refine aY hTe ?_;refine aF (fm2) ?_;refine oI (fc) ?_;refine bY ?_;refine iI 3 rfl ?_;refine aK ?_;refine iI 4 rfl ?_;refine aK ?_;refine aY hc1 ?_;refine jC fcan fd ?_;refine xib 3 ((r.record++[rO T]).map dY) rfl (by rw [List.map_append];exact xfu (xng _)) (mQ (f:=dY) (s:=18) (fun _=>rfl) _) ?_;refine aK ?_;refine bZ (ft) ?_;refine aA ?_;refine dS false [2,3,4,5,8] [4,7,9,11,87] χ χ ?_;simp only [go_sem];refine vJ 1 (((r.record++[rO T])++[gI T (1+c.branches % 64) q]).map dY) rfl (xaf (xae _ _ _)) (mQ (f:=dY) (s:=18) (fun _=>rfl) _) ?_;refine aK ?_;have st:=sth.h;refine aA ?_;refine fG 1 rfl (bV _ _) ?_;refine aK ?_;refine fG 2 rfl (bV _ _) ?_;refine aK ?_;exact aU nV
 rw [if_neg hsig];have k1:=h;have ks:=hT.2.2;have kl1:r.record.length≤193:=ω;have ho1:rngO r.out:=ho;have kt:=xjw k1.mach (t:=T) hT4 hnr.1 ω;have ft:=yek r.prog r.mach (k1.mach.up ω) T hT4 (rJ c) hnr ks;have k2:=(xnh k1 hT.1 hT.2.1 hnr.1 ω).le (show C+rJ c≤C+64 by omega);have kl2:(xcg r T (rJ c)).record.length≤194:=by show(r.record++[_]).length≤_;rw [List.length_append,List.length_singleton];omega
 have ho2:rngO (xcg r T (rJ c)).out:=ho;unfold xjb;simp only [xcg,xd9,Int.toNat_natCast] at kt k2 kl2 ho2⊢;generalize uV r.prog r.mach T (rJ c)=Z at ft kt k2 kl2 ho2⊢;obtain⟨g,q⟩:=Z;dsimp only at ft kt k2 kl2 ho2⊢;obtain⟨-,hqt,-,hq⟩:=kt;unfold rJ at ft hnr k2 kl2⊢;have hcases:c.signal=false∨(c.signal=true∧¬xck r.mach T):=by cases hcs:c.signal with|false=>exact .inl rfl|true=>exact .inr ⟨rfl,fun e=>hsig ⟨hcs,e⟩⟩
 rcases hcases with hc1|⟨hc1,hc2⟩
 rotate_left
 ·rw [aJ hc2] at fcan
  by_cases st:q.stop=1
  ·obtain⟨hq1,hq2⟩:=hq st
   have hok:=xhw ω k2 hq1 (xmp k2 ho2 hq1);have fcall:FncI Tryz.prog 138 (sD (⟨r.prog,g,r.out,r.locks,r.record++[gI T (1+c.branches % 64) q],r.joins⟩:PRn)) [.ptr 0 0 [] 0,eP q] (fun x o=>x=.tup []∧o=sD (callR (⟨r.prog,g,r.out,r.locks,r.record++[gI T (1+c.branches % 64) q],r.joins⟩:PRn) q)):=(xoe (C+64) ω ω (⟨r.prog,g,r.out,r.locks,r.record++[gI T (1+c.branches % 64) q],r.joins⟩:PRn) k2 q ⟨hq1,by rw [hqt,Int.toNat_natCast];exact hq2⟩ (Nat.le_trans kl2 δ)).mono fun x o e=>⟨e.1,e.2.1⟩;have hcl:=xk7 (⟨r.prog,g,r.out,r.locks,r.record++[gI T (1+c.branches % 64) q],r.joins⟩:PRn) q;rw [show nx3 (⟨r.prog,g,r.out,r.locks,r.record++[gI T (1+c.branches % 64) q],r.joins⟩:PRn) q=callR (⟨r.prog,g,r.out,r.locks,r.record++[gI T (1+c.branches % 64) q],r.joins⟩:PRn) q from if_pos st];generalize callR (⟨r.prog,g,r.out,r.locks,r.record++[gI T (1+c.branches % 64) q],r.joins⟩:PRn) q=r3 at fcall hok hcl⊢;dsimp only at hcl;have sth:Hd (q.stop=1):=⟨st⟩;clear st;clear hq;have hn3:=hok.mach.n;have fe:=xg9 (C+64) ω r3 hok T hT4 ω;unfold nx4;rw [Int.toNat_natCast];by_cases en:r3.mach.thr[T]!.state=4
   ·rw [if_pos en]
    generalize xau r3 T=r4 at fe⊢;refine qK nV fr fm1 fun W S=>?_;refine aY hTe ?_;refine aF (fm2) ?_;refine oI (fc) ?_;refine bY ?_;refine iI 3 rfl ?_;refine aK ?_;refine iI 4 rfl ?_;refine aK ?_;refine aY hc1 ?_;refine aF (fcan) ?_;refine bZ (ft) ?_;refine aA ?_;refine dS false [2,3,4,5,7] [4,7,9,11,87] χ χ ?_;simp only [go_sem];refine vJ 1 ((r.record++[gI T (1+c.branches % 64) q]).map dY) rfl (xaf (xae _ _ _)) (mQ (f:=dY) (s:=18) (fun _=>rfl) _) ?_;refine aK ?_;have st:=sth.h;refine aA ?_;refine pU 3 [1,2] (fcall) ?_;refine bK ?_;refine aA ?_;refine pU 3 [1,2] (fe) ?_;refine bK ?_;refine aA ?_;refine fG 1 rfl (bV _ _) ?_;refine aK ?_;refine fG 2 rfl (bV _ _) ?_;refine aK ?_;exact aU nV
   ·rw [if_neg en]
    refine qK nV fr fm1 fun W S=>?_;refine aY hTe ?_;refine aF (fm2) ?_;refine oI (fc) ?_;refine bY ?_;refine iI 3 rfl ?_;refine aK ?_;refine iI 4 rfl ?_;refine aK ?_;refine aY hc1 ?_;refine aF (fcan) ?_;refine bZ (ft) ?_;refine aA ?_;refine dS false [2,3,4,5,7] [4,7,9,11,87] χ χ ?_;simp only [go_sem];refine vJ 1 ((r.record++[gI T (1+c.branches % 64) q]).map dY) rfl (xaf (xae _ _ _)) (mQ (f:=dY) (s:=18) (fun _=>rfl) _) ?_;refine aK ?_;have st:=sth.h;refine aA ?_;refine pU 3 [1,2] (fcall) ?_;refine bK ?_;refine aA ?_;refine fG 1 rfl (bV _ _) ?_;refine aK ?_;refine fG 2 rfl (bV _ _) ?_;refine aK ?_;exact aU nV
  rw [show nx3 (⟨r.prog,g,r.out,r.locks,r.record++[gI T (1+c.branches % 64) q],r.joins⟩:PRn) q=(⟨r.prog,g,r.out,r.locks,r.record++[gI T (1+c.branches % 64) q],r.joins⟩:PRn) from if_neg st];have sth:Hd (¬q.stop=1):=⟨st⟩;clear st;clear hq;have hn3:=k2.mach.n;dsimp only at hn3;have fe:=xg9 (C+64) ω (⟨r.prog,g,r.out,r.locks,r.record++[gI T (1+c.branches % 64) q],r.joins⟩:PRn) k2 T hT4 (Nat.le_trans kl2 δ);unfold nx4;rw [Int.toNat_natCast];dsimp only;by_cases en:g.thr[T]!.state=4
  ·rw [if_pos en]
   generalize xau (⟨r.prog,g,r.out,r.locks,r.record++[gI T (1+c.branches % 64) q],r.joins⟩:PRn) T=r4 at fe⊢;refine qK nV fr fm1 fun W S=>?_;refine aY hTe ?_;refine aF (fm2) ?_;refine oI (fc) ?_;refine bY ?_;refine iI 3 rfl ?_;refine aK ?_;refine iI 4 rfl ?_;refine aK ?_;refine aY hc1 ?_;refine aF (fcan) ?_;refine bZ (ft) ?_;refine aA ?_;refine dS false [2,3,4,5,7] [4,7,9,11,87] χ χ ?_;simp only [go_sem];refine vJ 1 ((r.record++[gI T (1+c.branches % 64) q]).map dY) rfl (xaf (xae _ _ _)) (mQ (f:=dY) (s:=18) (fun _=>rfl) _) ?_;refine aK ?_;have st:=sth.h;refine aA ?_;refine pU 3 [1,2] (fe) ?_;refine bK ?_;refine aA ?_;refine fG 1 rfl (bV _ _) ?_;refine aK ?_;refine fG 2 rfl (bV _ _) ?_;refine aK ?_;exact aU nV
  ·rw [if_neg en]
   refine qK nV fr fm1 fun W S=>?_;refine aY hTe ?_;refine aF (fm2) ?_;refine oI (fc) ?_;refine bY ?_;refine iI 3 rfl ?_;refine aK ?_;refine iI 4 rfl ?_;refine aK ?_;refine aY hc1 ?_;refine aF (fcan) ?_;refine bZ (ft) ?_;refine aA ?_;refine dS false [2,3,4,5,7] [4,7,9,11,87] χ χ ?_;simp only [go_sem];refine vJ 1 ((r.record++[gI T (1+c.branches % 64) q]).map dY) rfl (xaf (xae _ _ _)) (mQ (f:=dY) (s:=18) (fun _=>rfl) _) ?_;refine aK ?_;have st:=sth.h;refine aA ?_;refine fG 1 rfl (bV _ _) ?_;refine aK ?_;refine fG 2 rfl (bV _ _) ?_;refine aK ?_;exact aU nV
 by_cases st:q.stop=1
 ·obtain⟨hq1,hq2⟩:=hq st
  have hok:=xhw ω k2 hq1 (xmp k2 ho2 hq1);have fcall:FncI Tryz.prog 138 (sD (⟨r.prog,g,r.out,r.locks,r.record++[gI T (1+c.branches % 64) q],r.joins⟩:PRn)) [.ptr 0 0 [] 0,eP q] (fun x o=>x=.tup []∧o=sD (callR (⟨r.prog,g,r.out,r.locks,r.record++[gI T (1+c.branches % 64) q],r.joins⟩:PRn) q)):=(xoe (C+64) ω ω (⟨r.prog,g,r.out,r.locks,r.record++[gI T (1+c.branches % 64) q],r.joins⟩:PRn) k2 q ⟨hq1,by rw [hqt,Int.toNat_natCast];exact hq2⟩ (Nat.le_trans kl2 δ)).mono fun x o e=>⟨e.1,e.2.1⟩;have hcl:=xk7 (⟨r.prog,g,r.out,r.locks,r.record++[gI T (1+c.branches % 64) q],r.joins⟩:PRn) q;rw [show nx3 (⟨r.prog,g,r.out,r.locks,r.record++[gI T (1+c.branches % 64) q],r.joins⟩:PRn) q=callR (⟨r.prog,g,r.out,r.locks,r.record++[gI T (1+c.branches % 64) q],r.joins⟩:PRn) q from if_pos st];generalize callR (⟨r.prog,g,r.out,r.locks,r.record++[gI T (1+c.branches % 64) q],r.joins⟩:PRn) q=r3 at fcall hok hcl⊢;dsimp only at hcl;have sth:Hd (q.stop=1):=⟨st⟩;clear st;clear hq;have hn3:=hok.mach.n;have fe:=xg9 (C+64) ω r3 hok T hT4 ω;unfold nx4;rw [Int.toNat_natCast];by_cases en:r3.mach.thr[T]!.state=4
  ·rw [if_pos en]
   generalize xau r3 T=r4 at fe⊢;refine qK nV fr fm1 fun W S=>?_;refine aY hTe ?_;refine aF (fm2) ?_;refine oI (fc) ?_;refine bY ?_;refine iI 3 rfl ?_;refine aK ?_;refine iI 4 rfl ?_;refine aK ?_;refine aY hc1 ?_;refine bZ (ft) ?_;refine aA ?_;refine dS false [2,3,4,5,7] [4,7,9,11,87] χ χ ?_;simp only [go_sem];refine vJ 1 ((r.record++[gI T (1+c.branches % 64) q]).map dY) rfl (xaf (xae _ _ _)) (mQ (f:=dY) (s:=18) (fun _=>rfl) _) ?_;refine aK ?_;have st:=sth.h;refine aA ?_;refine pU 3 [1,2] (fcall) ?_;refine bK ?_;refine aA ?_;refine pU 3 [1,2] (fe) ?_;refine bK ?_;refine aA ?_;refine fG 1 rfl (bV _ _) ?_;refine aK ?_;refine fG 2 rfl (bV _ _) ?_;refine aK ?_;exact aU nV
  ·rw [if_neg en]
   refine qK nV fr fm1 fun W S=>?_;refine aY hTe ?_;refine aF (fm2) ?_;refine oI (fc) ?_;refine bY ?_;refine iI 3 rfl ?_;refine aK ?_;refine iI 4 rfl ?_;refine aK ?_;refine aY hc1 ?_;refine bZ (ft) ?_;refine aA ?_;refine dS false [2,3,4,5,7] [4,7,9,11,87] χ χ ?_;simp only [go_sem];refine vJ 1 ((r.record++[gI T (1+c.branches % 64) q]).map dY) rfl (xaf (xae _ _ _)) (mQ (f:=dY) (s:=18) (fun _=>rfl) _) ?_;refine aK ?_;have st:=sth.h;refine aA ?_;refine pU 3 [1,2] (fcall) ?_;refine bK ?_;refine aA ?_;refine fG 1 rfl (bV _ _) ?_;refine aK ?_;refine fG 2 rfl (bV _ _) ?_;refine aK ?_;exact aU nV
 rw [show nx3 (⟨r.prog,g,r.out,r.locks,r.record++[gI T (1+c.branches % 64) q],r.joins⟩:PRn) q=(⟨r.prog,g,r.out,r.locks,r.record++[gI T (1+c.branches % 64) q],r.joins⟩:PRn) from if_neg st];have sth:Hd (¬q.stop=1):=⟨st⟩;clear st;clear hq;have hn3:=k2.mach.n;dsimp only at hn3;have fe:=xg9 (C+64) ω (⟨r.prog,g,r.out,r.locks,r.record++[gI T (1+c.branches % 64) q],r.joins⟩:PRn) k2 T hT4 (Nat.le_trans kl2 δ);unfold nx4;rw [Int.toNat_natCast];dsimp only;by_cases en:g.thr[T]!.state=4
 ·rw [if_pos en]
  generalize xau (⟨r.prog,g,r.out,r.locks,r.record++[gI T (1+c.branches % 64) q],r.joins⟩:PRn) T=r4 at fe⊢;refine qK nV fr fm1 fun W S=>?_;refine aY hTe ?_;refine aF (fm2) ?_;refine oI (fc) ?_;refine bY ?_;refine iI 3 rfl ?_;refine aK ?_;refine iI 4 rfl ?_;refine aK ?_;refine aY hc1 ?_;refine bZ (ft) ?_;refine aA ?_;refine dS false [2,3,4,5,7] [4,7,9,11,87] χ χ ?_;simp only [go_sem];refine vJ 1 ((r.record++[gI T (1+c.branches % 64) q]).map dY) rfl (xaf (xae _ _ _)) (mQ (f:=dY) (s:=18) (fun _=>rfl) _) ?_;refine aK ?_;have st:=sth.h;refine aA ?_;refine pU 3 [1,2] (fe) ?_;refine bK ?_;refine aA ?_;refine fG 1 rfl (bV _ _) ?_;refine aK ?_;refine fG 2 rfl (bV _ _) ?_;refine aK ?_;exact aU nV
 ·rw [if_neg en]
  refine qK nV fr fm1 fun W S=>?_;refine aY hTe ?_;refine aF (fm2) ?_;refine oI (fc) ?_;refine bY ?_;refine iI 3 rfl ?_;refine aK ?_;refine iI 4 rfl ?_;refine aK ?_;refine aY hc1 ?_;refine bZ (ft) ?_;refine aA ?_;refine dS false [2,3,4,5,7] [4,7,9,11,87] χ χ ?_;simp only [go_sem];refine vJ 1 ((r.record++[gI T (1+c.branches % 64) q]).map dY) rfl (xaf (xae _ _ _)) (mQ (f:=dY) (s:=18) (fun _=>rfl) _) ?_;refine aK ?_;have st:=sth.h;refine aA ?_;refine fG 1 rfl (bV _ _) ?_;refine aK ?_;refine fG 2 rfl (bV _ _) ?_;refine aK ?_;exact aU nV
end Go.Proofs.YthmjocibdepahaaGreat
