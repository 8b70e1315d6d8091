import Derived.Test.YtbgpfigkcpmnfaaGreatA25
import Derived.Test.YtbgpfigkcpmnfaaGreatA8
import Derived.Test.YtbgpfigkcpmnfaaGreatA37
import Derived.Test.YtbgpfigkcpmnfaaGreatA6
set_option linter.unusedSimpArgs false
set_option linter.unusedVariables false
set_option maxHeartbeats 64000000
set_option maxRecDepth 100000
namespace Rdn.Dp
open Go Go.RowKit Rdn
section
variable {P:Program} {cx:Cx}
theorem FncI.mono {f:FuncId} {ob:List Ob} {xs:List V} {R0 R1:V→List Ob→Prop} (h:FncI P f ob xs R0) (hR:∀x o,R0 x o→R1 x o):FncI P f ob xs R1:=fun w S lent E vs hl hr=>(h w S lent E vs hl hr).mono (by
 rintro e w' ⟨x,o,v,E',h1,h2,h3⟩
 exact⟨x,o,v,E',hR _ _ h1,h2,h3⟩)
theorem xww {N:Nat} {Q:Exit→Act→World→Prop} {k:List It} {n:Nat} {t:List (Nat×V)} {ob:List Ob} {lr:List RO} {gd:Option (Nat×Bool)} {i:Nat} {f:FuncId} {xs:List X} (r0:Nat) (rl:List Nat) {ys:List V} {ob0 ob1:List Ob} {x:V} {F:Prop} (hF:FncI P f ob0 ys fun y o=>y=x∧o=ob1∧F)
  (h:xat ⟨n,t,ob⟩ gd=some true∧xgm ⟨n,t,ob⟩ (r0::rl) (r0::rl)∧xmw ⟨n,t,ob⟩ rl∧V.nows (xgw ⟨n,t,ob⟩ (r0::rl)) (xs.map (X.ev ⟨n,t,ob⟩))∧V.mvs (fun q=>(posO (r0::rl) q,0)) (xs.map (X.ev ⟨n,t,ob⟩))=ys∧xim ⟨n,t,ob⟩ (r0::rl) (r0::rl)=ob0∧xgc ⟨n,t,ob⟩ (r0::rl) ob1∧xkv (xff ob1) ob1∧xoz (r0::rl).length ob1∧x.now (xff ob1)∧
   (F→EvR P cx N Q k lr ⟨n,(i,x.mv (xcr ⟨n,t,ob⟩ (r0::rl) ob1))::t,xk2 ⟨n,t,ob⟩ (r0::rl) ob1⟩)):EvR P cx N Q k (⟨some i,gd,.call f xs⟩::lr) ⟨n,t,ob⟩:=by
 obtain⟨hw,hs,hv,hn,hy,hob,c1,c2,c3,c4,h⟩:=h;refine⟨fun hN E a w R ops os hcc=>?_⟩;obtain⟨o,os',rfl,h1,h2⟩:=xak hcc;obtain⟨k1,k2,k3,k4⟩:=xal h1;obtain⟨aas,hxs,hrun⟩:=xbt k1 a;unfold wpList;rw [if_pos (xc6 R k2 hw)];refine .inl ?_;unfold Oper.wp;rw [hrun w,Oper.upon_enter];refine(xm4 R hxs hF rfl hs hv hn hy hob).mono ?_
 rintro e w' ⟨x',ob',v,⟨rfl,rfl,hf⟩,rfl,hb⟩
 obtain⟨E',L,hx',R'⟩:=hb c1 c2 c3 c4;show wpList P ops (onX P cx N Q k) os' (a.put o.dst v) w';rw [show o.dst=some i from k3];exact(h hf).h hN E' _ w' (R'.put (d:=some i) (fun j hj=>by show j<n;rw [show n=N from hN];exact k4 j hj) hx') ops os' h2
end
end Rdn.Dp
namespace Go.Proofs.YtbgpfigkcpmnfaaGreat
open Go Go.RowKit Rdn Rdn.Dp
theorem xge:xcd Tryz.prog 55=some (65,Qr ([Qw 3 (.box 96 (.t 1))])
 (Qr ([Qp 4 (.mov (Qi (-1)))])
 (.seq (Qr ([Qf 6 5 5 3,Ql 7 1 6,Qk 8 .eql 7 9])
 (.cond (.t 8) (.dreg [Qm 10 0,Qp 11 (.nilc (.t 10)),Qf 12 14 3 11,QL 13 2 12,Qf 14 6 6 3,Ql 15 1 14,Qp 16 (.idxA 4 (.t 15) (Qi 0)),Qf 17 1 1 16,Ql 18 1 17,Qp 19 (.conv .i64 (.t 18)),Qf 20 0 0 3,Ql 21 1 20,Qq 22 87 [(.t 13),(.t 19),(.t 21)],Qm 9 22,Qe 23 9 0,Qe 24 9 1,Qe 25 9 2,Qm 4 24] [[],[0],[0,1],[0,1,2],[],[4],[4,5],[4,5,6],[4,5,6,7],[4,5,6,7,8],[],[10],[0,1,2,3,4,5,6,7,8,9,10,11],[0,1,2,3,4,5,6,7,8,9,10,11,12],[0,1,2,3,4,5,6,7,8,9,10,11,12,13],[0,1,2,3,4,5,6,7,8,9,10,11,12,13],[0,1,2,3,4,5,6,7,8,9,10,11,12,13],[0,1,2,3,4,5,6,7,8,9,10,11,12,13,14,15]]) (.skip)))
 (Qr ([Qm 26 0,QL 27 8 3,Qq 28 88 [(.t 26),(.t 27)],Qw 5 (.alloc 100 (.agg [.agg [.int .u8 0,.int .u16 0,.int .i64 0,.int .i64 0],.nilS,.int .i64 0,.bool false])),Qs 7 5 28])
 (.seq (.dreg [Qm 30 0,Qm 31 0,Qp 32 (.nilc (.t 31)),Qf 33 0 0 32,QL 34 3 33,Qm 35 0,Qp 36 (.nilc (.t 35)),Qf 37 3 1 36,QL 38 5 37,QL 39 8 3,QL 40 7 5,Qq 41 89 [(.t 34),(.t 38),(.t 39),(.t 40)],Qm 29 41,Qe 42 29 0,Qe 43 29 1,Qp 44 (.nilc (.t 30)),Qf 45 3 1 44,Qs 5 45 42] [[],[],[1],[1,2],[1,2,3],[],[5],[5,6],[5,6,7],[],[],[1,2,3,4,5,6,7,8,9,10],[1,2,3,4,5,6,7,8,9,10,11],[1,2,3,4,5,6,7,8,9,10,11,12],[1,2,3,4,5,6,7,8,9,10,11,12],[0,1,2,3,4,5,6,7,8,9,10,11,12,13],[0,1,2,3,4,5,6,7,8,9,10,11,12,13,15],[0,1,2,3,4,5,6,7,8,9,10,11,12,13,15,16]])
 (.seq (.dreg [Qm 46 0,Qm 47 0,Qp 48 (.nilc (.t 47)),Qf 49 16 4 48,Ql 50 1 49,Qf 51 0 0 3,Ql 52 1 51,QL 53 8 3,QL 54 7 5,Qw 55 (.build none [.int .i64 0,.int .i64 0,.int .i64 0,.agg [.int .i64 0,.int .i64 0,.int .i64 0,.int .i64 0,.int .i64 0,.int .i64 0,.nilS,.nilS],.agg [.agg [.int .u8 0,.int .u16 0,.int .i64 0,.int .i64 0],.nilS,.int .i64 0,.bool false]] [(0,(Qi 2)),(1,(.t 52)),(3,(.t 53)),(4,(.t 54))]),Qw 56 (.buildS 102 18 (.agg [.int .i64 0,.int .i64 0,.int .i64 0,.agg [.int .i64 0,.int .i64 0,.int .i64 0,.int .i64 0,.int .i64 0,.int .i64 0,.nilS,.nilS],.agg [.agg [.int .u8 0,.int .u16 0,.int .i64 0,.int .i64 0],.nilS,.int .i64 0,.bool false]]) 1 [(0,(.t 55))]),Qw 57 (.app 102 18 184 (.t 50) (.t 56)),Qp 58 (.nilc (.t 46)),Qf 59 16 4 58,Qs 1 59 57] [[],[],[1],[1,2],[1,2,3],[],[5],[],[],[5,6,7,8],[5,6,7,8,9],[1,2,3,4,5,6,7,8,9,10],[0,1,2,3,4,5,6,7,8,9,10,11],[0,1,2,3,4,5,6,7,8,9,10,11,12],[0,1,2,3,4,5,6,7,8,9,10,11,12,13]])
 (Qr ([Qm 60 4,Qk 61 .geq 60 0])
 (.cond (.t 61) (.reg [Qm 62 0,Qm 63 4,Qq 64 90 [(.t 62),(.t 63),(.c (.int .u16 0))]]) (.skip)))))))),[]):=by kernel_rfl
theorem xbd {P:Program} {cx:Cx} {N:Nat} {Q:Exit→Act→World→Prop} {k:List It} {n:Nat} {t:List (Nat×V)} {ob:List Ob} (r:Nat) {f:Bool} {e g s:Nat} {q:List V} (q':List V) (hr:ob[r]?=some ⟨.rows f e,true,g,.arr s q⟩) (hs:SubVs q q') (hu:Unif s q') (h:Ev P cx N Q k ⟨n,t,ob.set r ⟨.rows f e,true,g,.arr s q'⟩⟩):Ev P cx N Q k ⟨n,t,ob⟩:=⟨fun hn E a w R=>h.h hn E a w (R.kind hr rfl rfl fun u ho=>by
 unfold OkO at ho⊢;obtain⟨h0,s',l,xs,h1,h3,h4,h5,h6,h7,h8⟩:=ho;have h1':=h1;injection h1 with e1 e2
 subst e1 e2;have hl:q'.length=q.length:=subVs_len hs;exact⟨rfl,_,_,xs,rfl,hu,h4,by rw [hl];exact h5,by rw [hl];exact h6,hs.rd h7,h8⟩)⟩
theorem xfd {P:Program} {cx:Cx} {N:Nat} {Q:Exit→Act→World→Prop} {k:List It} {lr:List RO} {n:Nat} {t:List (Nat×V)} {ob:List Ob} (r:Nat) {f:Bool} {e g s:Nat} {q:List V} (q':List V) (hr:ob[r]?=some ⟨.rows f e,true,g,.arr s q⟩) (hs:SubVs q q') (hu:Unif s q') (h:EvR P cx N Q k lr ⟨n,t,ob.set r ⟨.rows f e,true,g,.arr s q'⟩⟩):EvR P cx N Q k lr ⟨n,t,ob⟩:=⟨fun hn E a w R=>h.h hn E a w (R.kind hr rfl rfl fun u ho=>by
 unfold OkO at ho⊢;obtain⟨h0,s',l,xs,h1,h3,h4,h5,h6,h7,h8⟩:=ho;have h1':=h1;injection h1 with e1 e2
 subst e1 e2;have hl:q'.length=q.length:=subVs_len hs;exact⟨rfl,_,_,xs,rfl,hu,h4,by rw [hl];exact h5,by rw [hl];exact h6,hs.rd h7,h8⟩)⟩
theorem xe8 {l:List V} {x y:V} (h:SubV x y):SubVs (l++[x]) (l++[y]):=by
 induction l with
 |nil=>exact⟨h,trivial⟩
 |cons a l ih=>exact⟨SubV.refl a,ih⟩
theorem xsy (γ:Nat→Option Nat) (l m:List V):V.nows γ (l++m)=(V.nows γ l∧V.nows γ m):=by
 refine propext ⟨fun h=>⟨nows_iff.2 fun x hx=>nows_iff.1 h x (List.mem_append.2 (.inl hx)),nows_iff.2 fun x hx=>nows_iff.1 h x (List.mem_append.2 (.inr hx))⟩,fun h=>nows_iff.2 fun x hx=>?_⟩;rcases List.mem_append.1 hx with hx|hx
 ·exact nows_iff.1 h.1 x hx
 ·exact nows_iff.1 h.2 x hx
theorem xw3 (f:Nat→Nat×Nat) (l m:List V):V.mvs f (l++m)=V.mvs f l++V.mvs f m:=by rw [xco,xco,xco,List.map_append]
attribute [go_sem] xsy xw3
theorem xrt (u:Int) (x:Rdn.Result):SubV (.agg [.int .i64 4,.int .i64 u,.int .i64 0,.agg [.int .i64 0,.int .i64 0,.int .i64 0,.int .i64 0,.int .i64 0,.int .i64 0,.nilS,.nilS],resV x]) (entV (xwl u x)):=SubV.agg ⟨SubV.refl _,SubV.refl _,SubV.refl _,SubV.agg ⟨SubV.refl _,SubV.refl _,SubV.refl _,SubV.refl _,SubV.refl _,SubV.refl _,SubV.nil _ _,SubV.nil _ _,trivial⟩,SubV.refl _,trivial⟩
theorem okMach.up {p:PProg} {C:Int} {m:PMach} (h:okMach p C m) (hC:C≤1099511627776):okMach p 1099511627776 m:=h.le hC
theorem xpt (C:Int) (hC:C≤1099511627776) (r:PRn) (h:okRun C r) (u:Nat) (hu:u<4) (n:Int) (hn:0≤n∧n≤65535) (hrl:r.record.length≤1000000):FncI Tryz.prog 90 (obR r) [.ptr 0 0 [] 0,.int .i64 u,.int .u16 n] (fun x ob=>x=.tup []∧ob=obR (xk1 r u n)):=by
 refine zcf Tryz.prog 90 fun mz=>?_;have fv:=xan n true;have hx:=(xb4 n true).1;have fw:=yb7 r.prog r.mach (h.mach.up hC) u hu (resB (numR n) [] true) hx.v hx.d hx.s (xrs _ _ _);simp only [xk1,valS,xwl];refine zqi mz fun W lent S=>?_;refine zst ?_;refine zcd (fv) ?_;refine zcd (fw) ?_;refine xa7 true [0,1,2] [] (by simp only [go_sem]) (by simp only [go_sem]) ?_;simp only [go_sem];refine xbd 1 ((r.record++[xwl u (resB (numR n) [] true)]).map entV) rfl (by rw [List.map_append];exact xe8 (xrt u _)) (xaz (f:=entV) (s:=18) (fun _=>rfl) _) ?_;refine zls ?_;refine xir 3 mz ?_;exact zfn
structure okCall (r:PRn) (q:Request):Prop where
 req:okReq q
 st:r.mach.thr[q.thread.toNat]!.state=2
theorem xrb (r:PRn) (q:Request):(xdg r q).1.prog=r.prog∧(xdg r q).1.mach=r.mach∧(xdg r q).1.record=r.record:=by
 unfold xdg
 let P:PRn×Rdn.Result→Prop:=fun z=>z.1.prog=r.prog∧z.1.mach=r.mach∧z.1.record=r.record
 refine xa6 (P:=P) (fun _=>⟨rfl,rfl,rfl⟩) fun _=>?_;refine xa6 (P:=P) (fun _=>⟨rfl,rfl,rfl⟩) fun _=>?_;refine xa6 (P:=P) (fun _=>⟨rfl,rfl,rfl⟩) fun _=>?_;refine xa6 (P:=P) (fun _=>⟨rfl,rfl,rfl⟩) fun _=>?_;refine xa6 (P:=P) (fun _=>?_) fun _=>⟨rfl,rfl,rfl⟩;refine xa6 (P:=P) (fun _=>⟨rfl,rfl,rfl⟩) fun _=>?_;exact xa6 (P:=P) (fun _=>⟨rfl,rfl,rfl⟩) fun _=>⟨rfl,rfl,rfl⟩
theorem xm8 (C:Int) (hC0:0≤C) (hC:C≤1099511627776) (r:PRn) (h:okRun C r) (q:Request) (k:okCall r q) (hrl:r.record.length≤900000):FncI Tryz.prog 55 (obR r) [.ptr 0 0 [] 0,reqV q] (fun x ob=>x=.tup []∧ob=obR (callR r q)∧okRun C (callR r q)):=by
 have hal:=xoc k.req;have hra:=k.req.ra;have fg:=xyr r.locks h.lk q.args[0]!.val q.thread;have fp:=yhd C r h q k.req;have hcall:=fun hx=>xm7 hC0 h k.req hx;have hnr:=xmv h q;obtain⟨hp1,hp2⟩:=xzm h k.req;obtain⟨e1,e2,e3⟩:=xrb r q;unfold xsw at hnr;unfold callR xsw at hcall⊢;have hq:=k.req.F.thread;obtain⟨T,hT⟩:∃T:Nat,q.thread=T:=⟨q.thread.toNat,by omega⟩;have hst:=k.st;rw [hT,Int.toNat_natCast] at hst;generalize xdg r q=Z at fp hcall hp1 hp2 e1 e2 e3⊢;obtain⟨z,x⟩:=Z;dsimp only at fp hcall hp1 hp2 e1 e2 e3⊢;have hTn:q.thread.toNat=T:=by omega
 by_cases h9:q.call=9
 ·have ha1:q.args.length=1:=by rw [hal,h9];rfl
  obtain⟨w0,w1⟩:=hra _ (xam (l:=q.args) (k:=0) (by omega));simp only [if_pos h9] at hcall hnr⊢;generalize xdi r.locks q.args[0]!.val q.thread=G at fg hcall hnr⊢;obtain⟨gl,nx,gb⟩:=G;dsimp only at fg hcall hnr⊢;by_cases hn0:0≤nx;rotate_left
  ·rw [if_neg hn0] at hcall⊢
   refine zqi xge fun W lent S=>?_;refine zst ?_;refine zcd (fg) ?_;refine xww 0 [1,2] fp ?_;simp only [go_sem]
   repeat(first|refine And.intro (by omega) ?_|refine And.intro rfl ?_)
   intro hR;have hok:=hcall hR;have hput:=xux hC0 hp1 k.req hR;have ff:=xy6 z.prog z.mach (hp1.mach.up hC) T (by omega) q k.req.F k.req.st hT x hp2.v hp2.d hR.v ⟨by rw [e2];exact hst,k.req.F.call.1,k.req.F.call.2,hal,hp2.s,by have:=xfb hp2.d;omega,hR.d,hra⟩;have hzl:z.record.length≤900000:=by rw [e3];exact hrl
   have hpl:(putR z q x).record.length≤1000000:=by show(z.record++[_]).length≤_;rw [List.length_append,List.length_singleton];omega
   have fw:=fun N hN=>xpt C hC (putR z q x) hput N hN 0 (by decide) hpl;simp only [putR,hTn] at fw hok⊢;clear hput hcall hpl;refine zst ?_;refine zcd (ff) ?_;refine xbd 1 ((z.record++[(⟨2,q.thread,0,q,x⟩:PEntry)]).map entV) rfl (by rw [List.map_append];exact SubVs.refl _) (xaz (f:=entV) (s:=18) (fun _=>rfl) _) ?_;refine zls ?_;refine xa7 true [0,1,2] [] (by simp only [go_sem]) (by simp only [go_sem]) ?_;simp only [go_sem];refine xir 3 xge ?_;exact zfh hok
  rw [if_pos hn0] at hcall⊢;obtain⟨N,rfl⟩:∃N:Nat,nx=N:=⟨nx.toNat,by omega⟩;rw [Int.toNat_natCast] at hcall⊢;have hn4:N<4:=by omega
  refine zqi xge fun W lent S=>?_;refine zst ?_;refine zcd (fg) ?_;refine xww 0 [1,2] fp ?_;simp only [go_sem]
  repeat(first|refine And.intro (by omega) ?_|refine And.intro rfl ?_)
  intro hR;have hok:=hcall hR;have hput:=xux hC0 hp1 k.req hR;have ff:=xy6 z.prog z.mach (hp1.mach.up hC) T (by omega) q k.req.F k.req.st hT x hp2.v hp2.d hR.v ⟨by rw [e2];exact hst,k.req.F.call.1,k.req.F.call.2,hal,hp2.s,by have:=xfb hp2.d;omega,hR.d,hra⟩;have hzl:z.record.length≤900000:=by rw [e3];exact hrl
  have hpl:(putR z q x).record.length≤1000000:=by show(z.record++[_]).length≤_;rw [List.length_append,List.length_singleton];omega
  have fw:=fun N hN=>xpt C hC (putR z q x) hput N hN 0 (by decide) hpl;simp only [putR,hTn] at fw hok⊢;clear hput hcall hpl;refine zst ?_;refine zcd (ff) ?_;refine xfd 1 ((z.record++[(⟨2,q.thread,0,q,x⟩:PEntry)]).map entV) rfl (by rw [List.map_append];exact SubVs.refl _) (xaz (f:=entV) (s:=18) (fun _=>rfl) _) ?_;refine zls ?_;refine xc2 0 [1,2] (fw N hn4) ?_;refine zev ?_;refine zst ?_;refine xa7 true [0,1,2] [] (by simp only [go_sem]) (by simp only [go_sem]) ?_;simp only [go_sem];refine xir 3 xge ?_;exact zfh hok
 simp only [if_neg h9] at hcall hnr⊢;rw [if_neg (by decide)] at hcall⊢;refine zqi xge fun W lent S=>?_;refine zst ?_;refine xww 0 [1,2] fp ?_;simp only [go_sem]
 repeat(first|refine And.intro (by omega) ?_|refine And.intro rfl ?_)
 intro hR;have hok:=hcall hR;have hput:=xux hC0 hp1 k.req hR;have ff:=xy6 z.prog z.mach (hp1.mach.up hC) T (by omega) q k.req.F k.req.st hT x hp2.v hp2.d hR.v ⟨by rw [e2];exact hst,k.req.F.call.1,k.req.F.call.2,hal,hp2.s,by have:=xfb hp2.d;omega,hR.d,hra⟩;have hzl:z.record.length≤900000:=by rw [e3];exact hrl
 have hpl:(putR z q x).record.length≤1000000:=by show(z.record++[_]).length≤_;rw [List.length_append,List.length_singleton];omega
 have fw:=fun N hN=>xpt C hC (putR z q x) hput N hN 0 (by decide) hpl;simp only [putR,hTn] at fw hok⊢;clear hput hcall hpl;refine zst ?_;refine zcd (ff) ?_;refine xbd 1 ((z.record++[(⟨2,q.thread,0,q,x⟩:PEntry)]).map entV) rfl (by rw [List.map_append];exact SubVs.refl _) (xaz (f:=entV) (s:=18) (fun _=>rfl) _) ?_;refine zls ?_;refine xa7 true [0,1,2] [] (by simp only [go_sem]) (by simp only [go_sem]) ?_;simp only [go_sem];refine xir 3 xge ?_;exact zfh hok
abbrev obRL (r:PRn) (u:Value):List Ob:=[⟨.box true 53,true,0,.agg [xbn false r.prog,xd8 false r.mach,xct r.out,xcf false r.locks,.own 1 0,.lit u]⟩,⟨.rows true 102,true,0,.arr 18 (r.record.map entV)⟩]
theorem ye5 (C:Int) (hC:C≤1099511627776) (r:PRn) (h:okRun C r) (u:Nat) (hu:u<4) (n:Int) (hn:0≤n∧n≤65535) (hrl:r.record.length≤1000000) (v0:Value):FncI Tryz.prog 90 (obRL r v0) [.ptr 0 0 [] 0,.int .i64 u,.int .u16 n] (fun x ob=>x=.tup []∧ob=obRL (xk1 r u n) v0):=by
 refine zcf Tryz.prog 90 fun mz=>?_;have fv:=xan n true;have hx:=(xb4 n true).1;have fw:=yb7 r.prog r.mach (h.mach.up hC) u hu (resB (numR n) [] true) hx.v hx.d hx.s (xrs _ _ _);simp only [xk1,valS,xwl];refine zqi mz fun W lent S=>?_;refine zst ?_;refine zcd (fv) ?_;refine zcd (fw) ?_;refine xa7 true [0,1] [] (by simp only [go_sem]) (by simp only [go_sem]) ?_;simp only [go_sem];refine xbd 1 ((r.record++[xwl u (resB (numR n) [] true)]).map entV) rfl (by rw [List.map_append];exact xe8 (xrt u _)) (xaz (f:=entV) (s:=18) (fun _=>rfl) _) ?_;refine zls ?_;refine xir 2 mz ?_;exact zfn
def setL (r:PRn) (l:PLocks):PRn:={r with locks:=l}
theorem xxn {r:PRn} {l:List Int} {k:Nat} (hk:k<l.length):endA r (l.take (k+1))=xk1 (endA r (l.take k)) l[k]!.toNat 0:=by
 unfold endA;rw [List.take_succ_eq_append_getElem hk,List.foldl_append,getElem!_pos l k hk];rfl
theorem xoi:∀{l:List Int} {r:PRn},(endA r l).record.length=r.record.length+l.length
 |[],r=>rfl
 |u::l,r=>by
  rw [show endA r (u::l)=endA (xk1 r u.toNat 0) l from rfl,xoi (l:=l)];simp [xk1];omega
theorem ybp (t:Int) (r:PRn) (u:Nat):(endJ t r u).record.length≤r.record.length+1:=by
 unfold endJ;refine xa6 (P:=fun z:PRn=>z.record.length≤r.record.length+1) (fun _=>?_) fun _=>Nat.le_succ _;show(r.record++[_]).length≤_;simp
theorem xoj (t:Int) (r:PRn):∀k:Nat,(endN t r k).record.length≤r.record.length+k
 |0=>Nat.le_refl _
 |k+1=>by
  rw [xmf];have h1:=ybp t (endN t r k) k;have h2:=xoj t r k;omega
theorem xi3 (C:Int) (hC:C≤1099511627776) (r:PRn) (h:okRun C r) (t:Nat) (ht:t<4) (hrl:r.record.length≤900000):FncI Tryz.prog 56 (obR r) [.ptr 0 0 [] 0,.int .i64 t] (fun x ob=>x=.tup []∧ob=obR (endR r t)):=by
 refine zcf Tryz.prog 56 fun mz=>?_;have fd:=yk6 r.locks h.lk t;obtain⟨d1,d3⟩:=xsb h t;have hdl:(xft r.locks t).2.length≤4:=(xgd h.lk t 4).2.1;unfold endR;generalize xft r.locks t=D at fd d1 d3 hdl⊢;obtain⟨l2,nx⟩:=D;dsimp only at fd d1 d3 hdl⊢;rw [show({r with locks:=l2}:PRn)=setL r l2 from rfl] at d1⊢;have hr1l:(setL r l2).record.length≤900000:=hrl;refine zqi mz fun W lent S=>?_;refine zst ?_;refine zcd (fd) ?_;refine xa7 true [0,1,2] [0,1,23,24,25] (by simp only [go_sem]) (by simp only [go_sem]) ?_;simp only [go_sem];refine zlk [0,1,23,24] (fun q:{q:Nat // q≤nx.length}=>[(25,.int .i64 q.1)]) (fun q=>obR (endA (setL r l2) (nx.take q.1))) (fun q=>nx.length-q.1) (⟨0,by omega⟩) 3 ?_;intro J hJ
 rintro⟨k,hk0⟩
 have hz:=xsd d1 (l:=nx.take k) fun u hu=>d3 u (List.mem_of_mem_take hu);have hzl:=xoi (r:=(setL r l2)) (l:=nx.take k);rw [List.length_take] at hzl;by_cases hlt:k<nx.length
 ·have hs:=xxn (r:=(setL r l2)) hlt
  have hu:=d3 _ (xam (l:=nx) (k:=k) hlt);have fw:=xpt C hC (endA (setL r l2) (nx.take k)) hz nx[k]!.toNat (by omega) 0 (by decide) (by omega);rw [Int.toNat_of_nonneg hu.1,←hs] at fw;refine zst ?_;refine xc2 0 [1,2] (fw) ?_;refine zev ?_;refine zst ?_;refine xa7 true [0,1,2] [0,1,23,24,25] (by simp only [go_sem]) (by simp only [go_sem]) ?_;simp only [go_sem];refine xbw 3 (hJ _ (⟨k+1,hlt⟩) (by first|omega|(dsimp only;omega)|(simp;omega))) rfl (by simp) ?_ (by first|rfl|(simp only [go_sem];done)) (by first|rfl|(simp only [go_sem];done)) ?_
  ·(first|rfl|(simp only [go_sem];done)|(simp only [go_sem];simp only [];done)|(simp only [];done)|(simp only [go_sem];simp [];done)|(simp [];done))
  ·(simp only [go_sem];(repeat' (refine And.intro ?_ ?_))<;>first|exact trivial|with_reducible rfl|(simp only [];done)|(simp only [];with_reducible rfl)|(simp [];done)|(simp [];omega)|(simp only [];rfl)|skip)
 obtain rfl:k=nx.length:=by omega
 rw [List.take_length] at hz hzl⊢;rw [Nat.min_self] at hzl;generalize endA (setL r l2) nx=z at hz hzl⊢;have hzj:=hz.jl;simp only [obR];refine zst ?_;refine zlk [0,1,36,37] (fun q:{q:Nat // q≤4}=>[(38,.int .i64 q.1)]) (fun q=>obR (endN t z q.1)) (fun q=>4-q.1) (⟨0,by omega⟩) 3 ?_;intro J hJ
 rintro⟨k,hk0⟩
 have hy:=xse hz t hk0;have hyl:=xoj t z k;have hyj:=hy.jl;have hyn:=hy.mach.n;by_cases hlt:k<4
 ·have hs:=xmf t z k
  generalize endN t z k=y at hy hyl hyj hyn hs⊢;by_cases hj:y.joins[k]! =t
  ·have hs2:endN t z (k+1)=(fun q:PRn=>{q with joins:=q.joins.set k (-1)}) (xk1 y k y.mach.thr[t]!.code):=by rw [hs,endJ,if_pos hj,Int.toNat_natCast]
   simp only [obR];refine zst ?_;refine yei 56 fun hu=>?_;have hu:=xkb (by simpa only [xae,V.wf,if_true,if_false,Nat.reduceEqDiff] using hu);have fw:=fun u=>ye5 C hC y hy k hlt y.mach.thr[t]!.code hu (by omega) u;have hwj:(xk1 y k y.mach.thr[t]!.code).joins=y.joins:=rfl;generalize xk1 y k y.mach.thr[t]!.code=w2 at fw hs2 hwj;refine yjr (xc8 0 [1] 2 0 5 (lB:=[xbn false w2.prog,xd8 false w2.mach,xct w2.out,xcf false w2.locks,.own 1 0,.junk]) (x:=.tup []) (obB:=[⟨.rows true 102,true,0,.arr 18 (w2.record.map entV)⟩]) fw rfl rfl (by simp) rfl rfl rfl (fun u=>by simp only [go_sem]) (fun u=>by simp only [go_sem]) (by simp only [go_sem]) (by simp only [go_sem]) (by simp only [go_sem]) (by simp only [go_sem]) rfl (fun u=>by simp only [go_sem]) (by simp only [go_sem])) rfl ?_;simp only [go_sem];refine zst ?_;refine xa7 true [0,1,2] [0,1,36,37,38] (by simp only [go_sem]) (by simp only [go_sem]) ?_;simp only [go_sem]
   trace_state
   refine xbw 3 (hJ _ (⟨k+1,hlt⟩) (by first|omega|(dsimp only;omega)|(simp;omega))) rfl (by simp) ?_ (by first|rfl|(simp only [go_sem];done)) (by first|rfl|(simp only [go_sem];done)|(simp only [hs2,hwj,List.map_set];(try simp only [go_sem]);first|done|rfl)) ?_
   ·(first|rfl|(simp only [go_sem];done)|(simp only [go_sem];simp only [hs2,hwj,List.map_set];done)|(simp only [hs2,hwj,List.map_set];done)|(simp only [go_sem];simp [hs2,hwj,List.map_set];done)|(simp [hs2,hwj,List.map_set];done))
   ·(simp only [go_sem];(repeat' (refine And.intro ?_ ?_))<;>first|exact trivial|with_reducible rfl|(simp only [hs2,hwj,List.map_set];done)|(simp only [hs2,hwj,List.map_set];with_reducible rfl)|(simp [hs2,hwj,List.map_set];done)|(simp [hs2,hwj,List.map_set];omega)|(simp only [hs2,hwj,List.map_set];rfl)|skip)
  ·have hs2:endN t z (k+1)=y:=by rw [hs,endJ,if_neg hj]
   simp only [obR];refine zst ?_;exact zn3 (hJ _ (⟨k+1,hlt⟩) (by first|omega|(dsimp only;omega)|(simp;omega))) hs2
 obtain rfl:k=4:=by omega
 simp only [obR];refine zst ?_;refine xir 3 mz ?_;exact zfn
theorem ybe (l:PLay) (s:List Int) {c:Cell} (h:xbh c):(canS l s c).tag=c.tag:=by
 obtain⟨h0,h1,-,-⟩:=h;unfold canS;split
 ·rename_i e;exact e.symm
 ·split
  ·rename_i e;exact e.symm
  ·split<;>(dsimp only;omega)
theorem xwy {l:PLay} {s:List Int} (hl:xeh l s) {c:Cell} (h:xbh c):xcw (canS l s c)=true∧rngC (canS l s c):=by
 obtain⟨h0,h1,h2,h3⟩:=h;unfold canS;split
 ·exact⟨decT (.inl ⟨.inl rfl,rfl,rfl⟩),h2,h3⟩
 ·split
  ·exact⟨decT (.inl ⟨.inr rfl,rfl,rfl⟩),by show 0≤IntKind.u16.wrap _;rw [xbs];omega,by show IntKind.u16.wrap _≤65535;rw [xbs];omega⟩
  ·split
   ·rename_i r o e
    obtain⟨⟨i0,i1,i2,i3⟩,-⟩:=xjq hl e;have hs:=hl.1.1 _ (xam (l:=s) (k:=r.toNat) (by omega));have h4:=hl.1.2.2;dsimp only at i0 i1 i2 i3;exact⟨decT (.inr ⟨rfl,rfl,.inr ⟨i0,by dsimp only;omega,i2,by dsimp only;omega⟩⟩),by show(0:Int)≤0∧(0:Int)≤65535;decide⟩
   ·exact⟨decT (.inr ⟨rfl,rfl,.inl ⟨rfl,h2,h3⟩⟩),by show(0:Int)≤0∧(0:Int)≤65535;decide⟩
theorem xmg {ks a b:List Int}:∀{n:Nat},(∀i,i<n→a[i]! =b[i]!)→xdl ks a n=xdl ks b n
 |0,_=>rfl
 |n+1,h=>by
  unfold xdl;rw [xmg fun i hi=>h i (by omega),h n (by omega)]
theorem xyy {α:Type} [Inhabited α] (f:α→Int) {l:List α} {i:Nat} (h:i<l.length):(l.map f)[i]! =f l[i]!:=by
 rw [getElem!_pos _ i (by rw [List.length_map];exact h),List.getElem_map,getElem!_pos l i h]
theorem xwo (p:PProg) (l:PLay) (x:PThr) {k i:Nat} (h:i<k):(xii p l x k)[i]! =canS l p.sizes x.regs[i]!:=by
 have hl:=xm3 p l x k;rw [getElem!_pos _ i (by omega)];simp [xii]
theorem xq4 {l:List Canon} {n:Int} (h:∀c∈l,xcw c=true) (hn:(l.length:Int)≤n):xba l n=true:=xmb (List.all_eq_true.2 h) hn
theorem xnf {p:PProg} {C:Int} {m:PMach} (h:okMach p C m) {t:Nat} (ht:t<4) {n:Int} (hn:1≤n) (hC:C+n≤1099511627776):okMach p (C+n) (xhw p m t n).1∧(xhw p m t n).2.thread=t∧(xhw p m t n).2.data.length≤16∧((xhw p m t n).2.stop=1→okReq (xhw p m t n).2∧(xhw p m t n).1.thr[t]!.state=2):=by
 have ok:=xvc h ht hn;have hcq:=xo8 h ht hn;unfold xhw;generalize xf0 p m t n=Z at ok hcq⊢;obtain⟨g,s⟩:=Z;dsimp only at ok hcq⊢;obtain⟨hr,s0,s1,rl,pc0,pc1,cn0,cn1,-,-,-,-,tr0,tr1⟩:=xcm ok ht;unfold reqS;dsimp only;by_cases c2:s=2
 ·rw [if_pos c2]
  exact⟨ok,rfl,Nat.zero_le _,fun e=>by cases e⟩
 rw [if_neg c2];by_cases c1:s=1;rotate_left
 ·rw [if_neg c1]
  exact⟨ok,rfl,Nat.zero_le _,fun e=>absurd e c1⟩
 rw [if_pos c1];obtain⟨q1,q2,q3,q4⟩:=hcq c1;dsimp only at q1 q2 q3 q4;have hcr:=xm6 ok.prog q1 q2 q3;by_cases hc:chkS p g.lay g.thr[t]! =0;rotate_left
 ·rw [if_pos hc]
  have hcx:chkS p g.lay g.thr[t]! =6∨chkS p g.lay g.thr[t]! =0:=by
   unfold chkS;split
   ·exact .inl rfl
   split
   ·exact .inl rfl
   split
   ·exact .inl rfl
   ·exact .inr rfl
  exact⟨ok.set (Int.le_refl _) ok.mem t (xxo (xcm ok ht) 0 (by omega) (by omega)),rfl,Nat.zero_le _,fun e=>by cases e⟩
 rw [if_neg (not_not_intro hc)];have hfit:xdl (kl (xf2 p g.thr[t]!)) (tagR g.thr[t]!) (kl (xf2 p g.thr[t]!)).length=true:=by
  unfold chkS at hc;split at hc
  ·cases hc
  ·rename_i e
   cases hf:xdl (kl (xf2 p g.thr[t]!)) (tagR g.thr[t]!) (kl (xf2 p g.thr[t]!)).length with
   |true=>rfl
   |false=>exact absurd hf e
 have hdat:0<bufS (xf2 p g.thr[t]!)→0≤g.thr[t]!.regs[1]!.val∧g.thr[t]!.regs[1]!.val+g.thr[t]!.regs[2]!.val≤512∧g.thr[t]!.regs[2]!.val≤16:=by
  intro hb;unfold chkS at hc;split at hc
  ·cases hc
  ·rename_i e1
   split at hc
   ·cases hc
   ·rename_i e2
    have w:(xdx g.lay p.sizes g.thr[t]!.regs[1]! g.thr[t]!.regs[2]!.val).2=0:=Classical.byContradiction fun q=>e2 ⟨by omega,.inl q⟩;have w2:¬16<g.thr[t]!.regs[2]!.val:=fun q=>e2 ⟨by omega,.inr q⟩;have w3:=xrv ok.lay w;omega
 clear hc;generalize hcc:xf2 p g.thr[t]! =c at hcr hfit hdat⊢;have hk3:=xfr c;have hargs:∀x∈xii p g.lay g.thr[t]! (kl c).length,xcw x=true∧rngC x:=by
  intro x hx;obtain⟨i,hi,rfl⟩:=List.mem_map.1 hx;exact xwy ok.lay (xb3 hr (by have:=List.mem_range.1 hi;omega))
 have hdl:(if bufS c=1 then xj6 p g g.thr[t]! g.thr[t]!.regs[2]!.val.toNat else []).length≤16:=by
  refine xa6 (P:=fun l:List Canon=>l.length≤16) (fun e=>?_) fun _=>Nat.zero_le _;rw [xq9];have:=hdat (by omega);omega
 have hdc:∀x∈(if bufS c=1 then xj6 p g g.thr[t]! g.thr[t]!.regs[2]!.val.toNat else []),xcw x=true:=by
  refine xa6 (P:=fun l:List Canon=>∀x∈l,xcw x=true) (fun e=>?_) fun _ x hx=>by cases hx
  intro x hx;obtain⟨i,hi,rfl⟩:=List.mem_map.1 hx;have hd:=hdat (by omega);have:=List.mem_range.1 hi;exact(xwy ok.lay (xyw ok.mem (by omega) (by omega))).1
 refine⟨ok,rfl,hdl,fun _=>⟨?_,q4⟩⟩;generalize (if bufS c=1 then xj6 p g g.thr[t]! g.thr[t]!.regs[2]!.val.toNat else [])=d at hdl hdc⊢;have hal:=xm3 p g.lay g.thr[t]! (kl c).length;have hdl':(d.length:Int)≤16:=by omega
 have F:FitQ ⟨t,1,0,g.thr[t]!.count,g.thr[t]!.pc,c,xii p g.lay g.thr[t]! (kl c).length,d⟩:=⟨⟨by show(0:Int)≤t;omega,by show(t:Int)≤3;omega⟩,by show(0:Int)≤1∧(1:Int)≤3;decide,by show(0:Int)≤0∧(0:Int)≤6;decide,⟨cn0,by show g.thr[t]!.count≤_;omega⟩,⟨pc0,pc1⟩,hcr,xq4 (fun x hx=>(hargs x hx).1) (by rw [hal];omega),xq4 hdc hdl'⟩;refine⟨F,rfl,?_,fun e=>?_,fun x hx=>(hargs x hx).2⟩
 ·unfold xe2 xja xhh
  rw [xhf F];dsimp only;rw [List.length_map,hal,decT rfl,decT rfl];rw [Bool.true_and,Bool.true_and];refine(xmg fun i hi=>?_).trans hfit;rw [xyy Canon.tag (by rw [hal];exact hi),xwo p g.lay g.thr[t]! hi,ybe _ _ (xb3 hr (by omega)),tagR,xyy Cell.tag (by omega)]
 ·have h3:=xyj e
  dsimp only at e h3⊢;rw [xwo p g.lay g.thr[t]! (i:=2) (by omega)];have hd:=hdat (by omega);have hv:=xb3 hr (k:=2) (by omega);unfold canS;split
  ·exact hd.2.2
  ·rename_i e0
   have hf2:kfit (kl c)[2]! (tagR g.thr[t]!)[2]! =true:=by
    have:=hfit;rw [h3] at this;simp only [xdl,Bool.and_eq_true] at this;exact this.2
   have hk:(kl c)[2]! =78:=by
    rcases xnj e with rfl|rfl<;>rfl
   unfold kfit at hf2;rw [if_pos hk,decide_eq_true_eq] at hf2
   exfalso
   apply e0;rw [←hf2];rw [tagR,xyy Cell.tag (by omega)]
def rdyR (r:PRn):List Int:=rdyS r.mach.thr 4
def nxtT (r:PRn) (c:PChoice):Int:=(rdyR r)[(c.thread % (rdyR r).length).toNat]!
def nxtN (c:PChoice):Int:=1+c.branches % 64
def sigE (t:Int):PEntry:=⟨3,t,0,⟨0,0,0,0,0,0,[],[]⟩,⟨⟨0,0,0,0⟩,[],0,false⟩⟩
def slcE (t n:Int) (q:Request):PEntry:=⟨1,t,n,q,⟨⟨0,0,0,0⟩,[],0,false⟩⟩
def sigR (r:PRn) (t:Int):PRn:={r with mach:=sigS r.mach t.toNat,record:=r.record++[sigE t]}
def slcR (r:PRn) (t n:Int):PRn:={r with mach:=(xhw r.prog r.mach t.toNat n).1,record:=r.record++[slcE t n (xhw r.prog r.mach t.toNat n).2]}
def nx1 (r:PRn) (c:PChoice) (t:Int):PRn:=if c.signal=true∧xod r.mach t.toNat then sigR r t else r
noncomputable def nx3 (r:PRn) (q:Request):PRn:=if q.stop=1 then callR r q else r
def nx4 (r:PRn) (t:Int):PRn:=if r.mach.thr[t.toNat]!.state=4 then endR r t else r
noncomputable def xz6 (r:PRn) (t n:Int):PRn:=nx4 (nx3 (slcR r t n) (xhw r.prog r.mach t.toNat n).2) t
noncomputable def xtk (r:PRn) (c:PChoice):PRn:=xz6 (nx1 r c (nxtT r c)) (nxtT r c) (nxtN c)
def xnm (r:PRn):Int:=if(rdyR r).length=0 then 15 else if r.record.length>192 then 3 else 0
theorem xke (c:PChoice):1≤nxtN c∧nxtN c≤64:=by unfold nxtN;omega
theorem xsz {r:PRn} (h:¬(rdyR r).length=0) (c:PChoice):0≤nxtT r c∧nxtT r c<4∧r.mach.thr[(nxtT r c).toNat]!.state=1:=by
 have h0:=Int.emod_nonneg c.thread (show((rdyR r).length:Int)≠0 by omega);have h1:=Int.emod_lt_of_pos c.thread (show(0:Int)<(rdyR r).length by omega);exact ycx (xam (l:=rdyR r) (by omega))
theorem yac {m:PMach} {t:Nat} (ht:t<m.thr.length):(sigS m t).thr[t]!.state=m.thr[t]!.state:=by
 unfold sigS PMach.setT;dsimp only;rw [xit ht]
theorem yab {r:PRn} {C:Int} (h:okRun C r) {t:Int} (h0:0≤t) (h1:t<4) (hc:xod r.mach t.toNat):okRun C (sigR r t):=
 ⟨yl3 h.mach (by omega) hc,h.out,h.lk,h.jl,h.jr,fun e he=>by
  rcases List.mem_append.1 he with he|he
  ·exact h.rc e he
  ·obtain rfl:=List.mem_singleton.1 he
   exact Nat.zero_le _⟩
theorem okRun.le {r:PRn} {C D:Int} (h:okRun C r) (hc:C≤D):okRun D r:=⟨h.mach.le hc,h.out,h.lk,h.jl,h.jr,h.rc⟩
theorem xpo {r:PRn} {C:Int} (h:okRun C r) {t:Int} (h0:0≤t) (h1:t<4) {n:Int} (hn:1≤n) (hC:C+n≤1099511627776):okRun (C+n) (slcR r t n):=by
 obtain⟨k1,k2,k3,k4⟩:=xnf h.mach (t:=t.toNat) (by omega) hn hC;refine⟨k1,h.out,h.lk,h.jl,h.jr,fun e he=>?_⟩;rcases List.mem_append.1 he with he|he
 ·exact h.rc e he
 ·obtain rfl:=List.mem_singleton.1 he
  exact k3
theorem yeu {r:PRn} {C:Int} (h:okRun C r) (c:PChoice) {t:Int} (h0:0≤t) (h1:t<4) (hs:r.mach.thr[t.toNat]!.state=1):okRun C (nx1 r c t)∧(nx1 r c t).mach.thr[t.toNat]!.state=1∧(nx1 r c t).record.length≤r.record.length+1:=by
 unfold nx1;refine xa6 (P:=fun z:PRn=>okRun C z∧z.mach.thr[t.toNat]!.state=1∧z.record.length≤r.record.length+1) (fun e=>⟨yab h h0 h1 e.2,?_,?_⟩) fun _=>⟨h,hs,by omega⟩
 ·show(sigS r.mach t.toNat).thr[t.toNat]!.state=1
  rw [yac (by have:=h.mach.n;omega)];exact hs
 ·show(r.record++[_]).length≤_
  simp
theorem ykk {r:PRn} {C:Int} (h:okRun C r) (t:Int):okRun C (nx4 r t):=by
 unfold nx4;exact xa6 (P:=okRun C) (fun _=>yjp h t) fun _=>h
theorem xj3 (r:PRn) (q:Request):(callR r q).record.length≤r.record.length+2:=by
 have e:=(xrb r q).2.2;unfold callR;refine xa6 (P:=fun z:PRn=>z.record.length≤r.record.length+2) (fun _=>?_) fun _=>?_
 ·show((((xdg r q).1.record++[_]):List PEntry)++[_]).length≤_
  rw [e];simp
 ·show((xdg r q).1.record++[_]).length≤_
  rw [e];simp
structure rngO (o:Rdn.Outside):Prop where
 c:∀x∈o.clock,0≤x∧x≤65535
 r:∀x∈o.random,0≤x∧x≤65535
 i:∀w∈o.inputs,∀x∈w,0≤x∧x≤65535
 f:∀w∈o.files.data,∀x∈w,rngC x
theorem yce {o:Rdn.Outside} (h:(xct o).wf):rngO o:=by
 simp only [xct,owV,filV,slV',V.wf,V.wfs,xdw] at h;obtain⟨h1,h2,h3,h4,-⟩:=h;exact⟨fun x hx=>xkb (h1.1 x hx),fun x hx=>xkb (h2.1 x hx),fun w hw x hx=>xkb ((h3.1 w hw).1 x hx),fun w hw x hx=>xi1 ((h4.1.1 w hw).1 x hx)⟩
theorem xf8 {c:Canon} {d:List Canon} (ok:Bool) (hc:ok=true→rngC c) (hd:∀x∈d,rngC x):rngR (resB c d ok):=by
 cases ok with
 |true=>exact⟨hc rfl,hd⟩
 |false=>exact⟨by show(0:Int)≤65535∧(65535:Int)≤65535;decide,fun x hx=>by cases hx⟩
theorem xqk {l:List Int} (h:∀x∈l,0≤x∧x≤65535):rngC (xcq l).2.1:=by
 unfold xcq;refine xa6 (P:=fun z:List Int×Canon×Bool=>rngC z.2.1) (fun _=>by show(0:Int)≤0∧(0:Int)≤65535;decide) fun e=>?_;exact h _ (xam (l:=l) (k:=0) (by omega))
theorem xg2:∀x∈([]:List Canon),rngC x:=fun x hx=>by cases hx
theorem ygb {l:List (List Canon)} {P:Canon→Prop} (h:∀w∈l,∀x∈w,P x) (k:Nat):∀x∈l[k]!,P x:=by
 by_cases e:k<l.length
 ·exact h _ (xam e)
 ·intro x hx
  rw [List.getElem!_eq_getElem?_getD,List.getElem?_eq_none (by omega)] at hx;cases hx
theorem yfu {o:Rdn.Outside} (h:rngO o) (q:Request):rngR (doS o q).2:=by
 unfold doS
 let P:Rdn.Outside×Rdn.Result→Prop:=fun z=>rngR z.2
 refine xa6 (P:=P) (fun _=>xf8 _ (fun _=>xjj _) xg2) fun _=>?_;refine xa6 (P:=P) (fun _=>xf8 _ (fun _=>xjj _) ?_) fun _=>?_
 ·unfold xda
  refine xa6 (P:=fun z:Files×List Canon×Bool=>∀x∈z.2.1,rngC x) (fun _=>?_) fun _=>xg2;intro x hx;exact ygb h.f _ x (List.mem_of_mem_drop (List.mem_of_mem_take hx))
 refine xa6 (P:=P) (fun _=>xf8 _ (fun _=>⟨by show 0≤IntKind.u16.wrap _;rw [xbs];omega,by show IntKind.u16.wrap _≤65535;rw [xbs];omega⟩) xg2) fun _=>?_;refine xa6 (P:=P) (fun _=>xf8 _ (fun _=>by show(0:Int)≤0∧(0:Int)≤65535;decide) xg2) fun _=>?_;refine xa6 (P:=P) (fun _=>xf8 _ (fun _=>by show(0:Int)≤0∧(0:Int)≤65535;decide) xg2) fun _=>?_;refine xa6 (P:=P) (fun _=>xf8 _ (fun _=>xqk h.c) xg2) fun _=>?_;refine xa6 (P:=P) (fun _=>xf8 _ (fun _=>xqk h.r) xg2) fun _=>?_;refine xa6 (P:=P) (fun _=>xf8 _ (fun _=>xjj _) xg2) fun _=>?_;refine xa6 (P:=P) (fun _=>xf8 _ (fun _=>xjj _) ?_) fun _=>⟨by show(0:Int)≤65535∧(65535:Int)≤65535;decide,xg2⟩;unfold xd0;refine xa6 (P:=fun z:List (List Int)×List Canon×Bool=>∀x∈z.2.1,rngC x) (fun _=>xg2) fun e=>?_;intro x hx;obtain⟨v,hv,rfl⟩:=List.mem_map.1 hx;exact h.i _ (xam (l:=o.inputs) (k:=q.args[0]!.val.toNat) (by omega)) v (List.mem_of_mem_take hv)
theorem xlo {r:PRn} {C:Int} (h:okRun C r) (ho:rngO r.out) {q:Request} (k:okReq q):rngR (xdg r q).2:=by
 unfold xdg
 let P:PRn×Rdn.Result→Prop:=fun z=>rngR z.2
 have val:=fun n ok=>(xb4 n ok).2;have spn:∀n ok (s:Int),rngR {valS n ok with spawn:=s}:=fun n ok s=>⟨(val n ok).v,(val n ok).d⟩;have wt:∀n ok (w:Bool),rngR {valS n ok with wait:=w}:=fun n ok s=>⟨(val n ok).v,(val n ok).d⟩;by_cases h0:q.call=0∨q.call=12∨q.call=15
 ·rw [if_pos h0];exact val 0 true
 rw [if_neg h0];by_cases h8:q.call=8
 ·rw [if_pos h8];exact wt 0 _ _
 rw [if_neg h8];by_cases h9:q.call=9
 ·rw [if_pos h9];exact val 0 _
 rw [if_neg h9];by_cases h10:q.call=10
 ·rw [if_pos h10]
  exact xa6 (P:=rngR) (fun _=>spn _ true _) fun _=>val 0 false
 rw [if_neg h10];by_cases h11:q.call=11
 ·rw [if_pos h11]
  refine xa6 (P:=P) (fun _=>val 0 false) fun _=>?_;exact xa6 (P:=P) (fun _=>val (xqu r q).code true) fun _=>wt 0 true true
 rw [if_neg h11,yhz (yf3 h k h0 h8 h9 h10 h11)];exact yfu ho q
theorem yev {r:PRn} {C:Int} (hC:0≤C) (h:okRun C r) (ho:rngO r.out) {q:Request} (k:q.stop=1→okReq q):okRun C (nx3 r q):=by
 unfold nx3;exact xa6 (P:=okRun C) (fun e=>xm7 hC h (k e) (xlo h ho (k e))) fun _=>h
theorem yc4 {r:PRn} {C:Int} (hC:0≤C) (h:okRun C r) (ho:rngO r.out) {t:Int} (h0:0≤t) (h1:t<4) {n:Int} (hn:1≤n∧n≤64) (hC2:C+64≤1099511627776):okRun (C+64) (xz6 r t n):=by
 have k:=xnf h.mach (t:=t.toNat) (by omega) hn.1 (by omega);refine ykk (yev (by omega) ((xpo h h0 h1 hn.1 (by omega)).le (by omega)) ho fun e=>(k.2.2.2 e).1) t
theorem ydq {r:PRn} {C:Int} (hC:0≤C) (h:okRun C r) (ho:rngO r.out) (c:PChoice) (he:xnm r=0) (hC2:C+64≤1099511627776):okRun (C+64) (xtk r c):=by
 have hl:¬(rdyR r).length=0:=fun e=>by unfold xnm at he;rw [if_pos e] at he;cases he
 obtain⟨t0,t1,ts⟩:=xsz hl c;obtain⟨k1,k2,k3⟩:=yeu h c t0 t1 ts;have ho2:rngO (nx1 r c (nxtT r c)).out:=by
  unfold nx1;exact xa6 (P:=fun z:PRn=>rngO z.out) (fun _=>ho) fun _=>ho
 exact yc4 hC k1 ho2 t0 t1 (xke c) hC2
end Go.Proofs.YtbgpfigkcpmnfaaGreat
