import Derived.Test.YthmjocibdepahaaGreatA29
import Derived.Test.YthmjocibdepahaaGreatA33
set_option linter.defProp false
set_option linter.unusedSimpArgs false
set_option linter.unusedVariables false
set_option maxHeartbeats 64000000
set_option maxRecDepth 100000
namespace Go.Proofs.YthmjocibdepahaaGreat
open Go Go.RowKit Rdn Rdn.Dp
def kL:=zcs 182
abbrev dY (e:PEntry):V:=.agg [.int .i64 e.kind,.int .i64 e.thread,.int .i64 e.n,eP e.req,eX e.res]
instance :Lo dY dY:=⟨fun _=>rfl,fun o=>by simp only [dY,eP,eX,V.low,V.lows,uC]⟩
abbrev sD (r:PRn):List Ob:=[⟨.box true 100,true,0,.agg [dM false r.prog,eG false r.mach,jO r.out,nU false r.locks,.own 1 0,.own 2 0]⟩,⟨.rows true 245,true,0,.arr 18 (r.record.map dY)⟩,⟨.rows true 3,true,0,.arr 1 (bH r.joins)⟩]
theorem xi8 {P:Program} {cx:Cx} {N:Nat} {Q:Exit→Act→World→Prop} {k:List It} {n:Nat} {t:List (Nat×V)} {ob:List Ob} (i:Nat) (h:(aV t i).wf→Ev P cx N Q k ⟨n,t,ob⟩):Ev P cx N Q k ⟨n,t,ob⟩:=⟨fun hn E a w R=>(h (RdT.wf (R.tm i))).h hn E a w R⟩
theorem xwd {P:Program} {cx:Cx} {N:Nat} {Q:Exit→Act→World→Prop} {k:List It} {lr:List RO} {n:Nat} {t:List (Nat×V)} {ob:List Ob} (i:Nat) (h:(aV t i).wf→EvR P cx N Q k lr ⟨n,t,ob⟩):EvR P cx N Q k lr ⟨n,t,ob⟩:=⟨fun hn E a w R=>(h (RdT.wf (R.tm i))).h hn E a w R⟩
theorem xgk {n:Int} (h:jE .u16 n):0≤n∧n≤65535:=by
 exact⟨h.1,h.2⟩
theorem xoi {c:Canon} (h:(aS c).wf):kQ c:=by
 simp only [aS,V.wf,V.wfs] at h;exact xgk h.2.1
theorem ysw {x:Rdn.Result} (h:(eX x).wf):rngR x:=by
 simp only [eX,V.wf,V.wfs,lW] at h;exact⟨xoi h.1,fun c hc=>xoi (h.2.1.1 c hc)⟩
theorem ywc (l:PLocks) (k t:Int):(uP l k t).2=0∨(uP l k t).2=1∨(uP l k t).2=2:=by
 unfold uP;refine aQ (P:=fun z:PLocks×Int=>z.2=0∨z.2=1∨z.2=2) (fun _=> .inr (.inr rfl)) fun _=>?_;by_cases e:∃w∈l.queue,t∈w
 ·rw [if_pos e];exact .inr (.inr rfl)
 ·rw [if_neg e]
  exact aQ (P:=fun z:PLocks×Int=>z.2=0∨z.2=1∨z.2=2) (fun _=> .inl rfl) fun _=> .inr (.inl rfl)
theorem yr4 (C:Int) (r:PRn) (h:okRun C r) (q:Request) (k:okReq q):FncI Tryz.prog 182 (sD r) [.ptr 0 0 [] 0,eP q] (fun x ob=>x=eX (lG r q).2∧ob=sD (lG r q).1∧rngR (lG r q).2):=by
 have hal:=xk3 k;have hth:=k.F.thread;have hc:=k.F.call;have hra:=k.ra;have hn:=h.mach.n;have hjl:=h.jl;by_cases h0:q.call=0∨q.call=12∨q.call=15
 ·have fv:=jB 0 true
  rw [show lG r q=(r,jU 0 true) from if_pos h0];have hR:=(kH 0 true).2;rcases h0 with h0|h0|h0
  all_goals
   refine dG kL fun W lent S=>?_;refine aA ?_;refine aF (fv) ?_;refine gZ 3 kL ?_;exact uJ hR
 by_cases h8:q.call=8
 ·have ha1:q.args.length=1:=by rw [hal,h8];rfl
  obtain⟨w0,w1⟩:=hra _ (dJ (l:=q.args) (k:=0) ω);have ft:=ynj r.locks h.lk q.args[0]!.val q.thread;have hw:=ywc r.locks q.args[0]!.val q.thread;rw [show lG r q=({r with locks:=(uP r.locks q.args[0]!.val q.thread).1},{jU 0 (decide ((uP r.locks q.args[0]!.val q.thread).2≠2)) with wait:=decide ((uP r.locks q.args[0]!.val q.thread).2=1)}) by unfold lG;rw [if_neg h0,if_pos h8]];generalize uP r.locks q.args[0]!.val q.thread=Z at ft hw⊢;obtain⟨l2,w⟩:=Z;dsimp only at ft hw⊢;rcases hw with rfl|rfl|rfl
  ·have fv:=jB 0 true
   have hR:rngR {jU 0 true with wait:=false}:=⟨(kH 0 true).2.v,(kH 0 true).2.d⟩;rw [show decide ((0:Int)≠2)=true from rfl,show decide ((0:Int)=1)=false from rfl];refine dG kL fun W lent S=>?_;refine aA ?_;refine jC ft fv ?_;refine dS true [0,1,2,3,4] [4] χ χ ?_;simp only [go_sem];refine gZ 3 kL ?_;exact uJ hR
  ·have fv:=jB 0 true
   have hR:rngR {jU 0 true with wait:=true}:=⟨(kH 0 true).2.v,(kH 0 true).2.d⟩;rw [show decide ((1:Int)≠2)=true from rfl,show decide ((1:Int)=1)=true from rfl];refine dG kL fun W lent S=>?_;refine aA ?_;refine jC ft fv ?_;refine dS true [0,1,2,3,4] [4] χ χ ?_;simp only [go_sem];refine gZ 3 kL ?_;exact uJ hR
  ·have fv:=jB 0 false
   have hR:rngR {jU 0 false with wait:=false}:=⟨(kH 0 false).2.v,(kH 0 false).2.d⟩;rw [show decide ((2:Int)≠2)=false from rfl,show decide ((2:Int)=1)=false from rfl];refine dG kL fun W lent S=>?_;refine aA ?_;refine jC ft fv ?_;refine dS true [0,1,2,3,4] [4] χ χ ?_;simp only [go_sem];refine gZ 3 kL ?_;exact uJ hR
 by_cases h9:q.call=9
 ·have ha1:q.args.length=1:=by rw [hal,h9];rfl
  obtain⟨w0,w1⟩:=hra _ (dJ (l:=q.args) (k:=0) ω);have ft:=xq2 r.locks h.lk q.args[0]!.val q.thread;rw [show lG r q=({r with locks:=(rW r.locks q.args[0]!.val q.thread).1},jU 0 (rW r.locks q.args[0]!.val q.thread).2.2) by unfold lG;rw [if_neg h0,if_neg h8,if_pos h9]];generalize rW r.locks q.args[0]!.val q.thread=Z at ft⊢;obtain⟨l2,w,b⟩:=Z;dsimp only at ft⊢;have fv:=jB 0 b;have hR:=(kH 0 b).2;refine dG kL fun W lent S=>?_;refine aA ?_;refine jC ft fv ?_;refine dS true [0,1,2,3,4] [4] χ χ ?_;simp only [go_sem];refine gZ 3 kL ?_;exact uJ hR
 by_cases h10:q.call=10
 ·rw [show lG r q=(r,if 0≤xb1 r.mach.thr then {jU (xb1 r.mach.thr) true with spawn:=xb1 r.mach.thr} else jU 0 false) by unfold lG;rw [if_neg h0,if_neg h8,if_neg h9,if_pos h10]]
  unfold xb1;by_cases z0:r.mach.thr[0]!.state=0
  ·rw [if_pos z0,if_pos δ]
   have fv:=jB 0 true;have hR:rngR {jU 0 true with spawn:=0}:=⟨(kH 0 true).2.v,(kH 0 true).2.d⟩;refine dG kL fun W lent S=>?_;refine aA ?_;refine fU 5 ?_;refine aA ?_;refine aF (fv) ?_;refine gZ 3 kL ?_;exact uJ hR
  rw [if_neg z0];by_cases z1:r.mach.thr[1]!.state=0
  ·rw [if_pos z1,if_pos δ]
   have fv:=jB 1 true;have hR:rngR {jU 1 true with spawn:=1}:=⟨(kH 1 true).2.v,(kH 1 true).2.d⟩;refine dG kL fun W lent S=>?_;refine aA ?_;refine fU 5 ?_;refine aA ?_;refine aF (fv) ?_;refine gZ 3 kL ?_;exact uJ hR
  rw [if_neg z1];by_cases z2:r.mach.thr[2]!.state=0
  ·rw [if_pos z2,if_pos δ]
   have fv:=jB 2 true;have hR:rngR {jU 2 true with spawn:=2}:=⟨(kH 2 true).2.v,(kH 2 true).2.d⟩;refine dG kL fun W lent S=>?_;refine aA ?_;refine fU 5 ?_;refine aA ?_;refine aF (fv) ?_;refine gZ 3 kL ?_;exact uJ hR
  rw [if_neg z2];by_cases z3:r.mach.thr[3]!.state=0
  ·rw [if_pos z3,if_pos δ]
   have fv:=jB 3 true;have hR:rngR {jU 3 true with spawn:=3}:=⟨(kH 3 true).2.v,(kH 3 true).2.d⟩;refine dG kL fun W lent S=>?_;refine aA ?_;refine fU 5 ?_;refine aA ?_;refine aF (fv) ?_;refine gZ 3 kL ?_;exact uJ hR
  rw [if_neg z3];rw [if_neg δ];have fv:=jB 0 false;have hR:=(kH 0 false).2;refine dG kL fun W lent S=>?_;refine aA ?_;refine fU 5 ?_;refine aA ?_;refine aF (fv) ?_;refine gZ 3 kL ?_;exact uJ hR
 by_cases h11:q.call=11
 ·have ha1:q.args.length=1:=by rw [hal,h11];rfl
  obtain⟨w0,w1⟩:=hra _ (dJ (l:=q.args) (k:=0) ω);have e11:lG r q=if q.args[0]!.val=q.thread∨4≤q.args[0]!.val∨(xdw r q).state=0 then(r,jU 0 false) else if(xdw r q).state=4 then(r,jU (xdw r q).code true) else({r with joins:=r.joins.set q.thread.toNat q.args[0]!.val},{jU 0 true with wait:=true}):=by unfold lG;rw [if_neg h0,if_neg h8,if_neg h9,if_neg h10,if_pos h11]
  rw [e11];clear e11;have ff:=jB 0 false;have hF:=(kH 0 false).2;by_cases a0:q.args[0]!.val=q.thread
  ·rw [if_pos (.inl a0)]
   refine dG kL fun W lent S=>?_;refine aA ?_;refine aF (ff) ?_;refine gZ 3 kL ?_;exact uJ hF
  by_cases a1:4≤q.args[0]!.val
  ·rw [if_pos (.inr (.inl a1))]
   refine dG kL fun W lent S=>?_;refine aA ?_;refine aF (ff) ?_;refine gZ 3 kL ?_;exact uJ hF
  by_cases a2:r.mach.thr[q.args[0]!.val.toNat]!.state=0
  ·rw [if_pos (.inr (.inr a2))]
   refine dG kL fun W lent S=>?_;refine aA ?_;refine aF (ff) ?_;refine gZ 3 kL ?_;exact uJ hF
  rw [if_neg (fun e=>e.elim a0 fun e=>e.elim a1 a2)];unfold xdw;by_cases a3:r.mach.thr[q.args[0]!.val.toNat]!.state=4
  ·rw [if_pos a3]
   have fv:=jB r.mach.thr[q.args[0]!.val.toNat]!.code true;have hR:=(kH r.mach.thr[q.args[0]!.val.toNat]!.code true).2;refine dG kL fun W lent S=>?_;refine aA ?_;refine xwd 145 fun hu=>?_;have hu:=xgk (by simpa only [aV,V.wf,if_true,if_false,Nat.reduceEqDiff] using hu);refine aA ?_;refine aF (fv) ?_;refine gZ 3 kL ?_;exact uJ hR
  rw [if_neg a3];have fv:=jB 0 true;have hR:rngR {jU 0 true with wait:=true}:=⟨(kH 0 true).2.v,(kH 0 true).2.d⟩;refine dG kL fun W lent S=>?_;refine aA ?_;refine aF (fv) ?_;refine gZ 3 kL ?_;(first|(simp only [go_sem];done)|(simp only [go_sem];((try dsimp only);(repeat' (refine And.intro ?_ ?_))<;>first|with_reducible rfl|(simp only [go_sem];done)|(simp only [go_sem];rfl)|(simp only [go_sem,hR,List.map_set];done)|(simp only [hR,List.map_set];(try simp only [go_sem]);first|done|rfl)|(simp only [go_sem];simp [hR,List.map_set];done)|(simp [hR,List.map_set];done)|rfl)))
 have e12:lG r q=({r with out:=(sDo r.out q).1},(sDo r.out q).2.1):=by unfold lG;rw [if_neg h0,if_neg h8,if_neg h9,if_neg h10,if_neg h11]
 rw [e12];clear e12;have fd:=ysm r.out q (by have:=xdx q.call;omega);generalize sDo r.out q=Z at fd⊢;obtain⟨o2,x,e⟩:=Z;dsimp only at fd⊢;refine dG kL fun W lent S=>?_;refine aA ?_;refine aF (fd) ?_;refine xi8 173 fun hR=>?_;have hR:=ysw (by simpa only [aV,if_true,if_false,Nat.reduceEqDiff] using hR);refine dS true [0,1,2,3,4] [4] χ χ ?_;simp only [go_sem];refine gZ 3 kL ?_;exact uJ hR
end Go.Proofs.YthmjocibdepahaaGreat
