import Derived.Test.YthmjocibdepahaaGreatA21
import Derived.Test.YthmjocibdepahaaGreatA14
set_option linter.unusedSimpArgs false
set_option linter.unusedVariables false
set_option maxHeartbeats 64000000
set_option maxRecDepth 100000
namespace Go.Proofs.YthmjocibdepahaaGreat
open Go Go.RowKit Rdn Rdn.Dp
def xhm (p:PProg) (m:PMach) (t:Nat) (x:Rdn.Result):PMach:=if m.thr[t]!.state=3 then m.setT t (kT m.thr[t]! (iD m.lay p.sizes x.value).1) else m
theorem yfc (p:PProg) (m:PMach) (h:okMach p 1099511627776 m) (t:Nat) (ht:t<4) (x:Rdn.Result) (h1:iH x.value=true) (h2:fD x.data 16=true) (h3:-1≤x.spawn∧x.spawn<4) (hr:(iD m.lay p.sizes x.value).2=0):Fnc Tryz.prog 207 [dM false p,eG false m,.int .i64 t,eX x] (fun y obs=>y=.tup [eG false (xhm p m t x),.bool (decide (m.thr[t]!.state=3))]∧obs=[]):=by
 by_cases hs:m.thr[t]!.state=3
 ·refine Fnc.low ((yxk p m h t ht hs x h1 h2 h3 hr).mono ?_)
  rintro y obs ⟨rfl,rfl⟩
  unfold xhm;rw [if_pos hs,aN hs];refine⟨?_,rfl⟩;simp only [eG,dQ,iU,V.low,V.lows,uC]
 ·refine Fnc.low ?_
  unfold xhm;rw [if_neg hs,aJ hs];have fv:=xm7 p m h;have fr:=xs8 x h1 h2 h3;have hn:=h.n;exact zG2 xqy fv fr
structure PRn where
 prog:PProg
 mach:PMach
 out:Rdn.Outside
 locks:PLocks
 record:List PEntry
 joins:List Int
def jU (n:Int) (ok:Bool):Rdn.Result:=lM (nH n) [] ok
def xb1 (l:List PThr):Int:=if l[0]!.state=0 then 0 else if l[1]!.state=0 then 1 else if l[2]!.state=0 then 2 else if l[3]!.state=0 then 3 else-1
def xdw (r:PRn) (q:Request):PThr:=r.mach.thr[q.args[0]!.val.toNat]!
noncomputable def lG (r:PRn) (q:Request):PRn×Rdn.Result:=
 if q.call=0∨q.call=12∨q.call=15 then(r,jU 0 true)
 else if q.call=8 then({r with locks:=(uP r.locks q.args[0]!.val q.thread).1},{jU 0 (decide ((uP r.locks q.args[0]!.val q.thread).2≠2)) with wait:=decide ((uP r.locks q.args[0]!.val q.thread).2=1)})
 else if q.call=9 then({r with locks:=(rW r.locks q.args[0]!.val q.thread).1},jU 0 (rW r.locks q.args[0]!.val q.thread).2.2)
 else if q.call=10 then(r,if 0≤xb1 r.mach.thr then {jU (xb1 r.mach.thr) true with spawn:=xb1 r.mach.thr} else jU 0 false)
 else if q.call=11 then
  if q.args[0]!.val=q.thread∨4≤q.args[0]!.val∨(xdw r q).state=0 then(r,jU 0 false)
  else if(xdw r q).state=4 then(r,jU (xdw r q).code true)
  else({r with joins:=r.joins.set q.thread.toNat q.args[0]!.val},{jU 0 true with wait:=true})
 else({r with out:=(sDo r.out q).1},(sDo r.out q).2.1)
structure okReq (q:Request):Prop where
 F:FitQ q
 st:q.stop=1
 asks:mY q=true
 s16:xfa q
 ra:∀c∈q.args,kQ c
structure okRun (C:Int) (r:PRn):Prop where
 mach:okMach r.prog C r.mach
 out:FitO r.out
 lk:okLk r.locks
 jl:r.joins.length=4
 jr:∀j∈r.joins,-1≤j∧j<4
 rc:∀e∈r.record,e.req.data.length≤16
structure okRes (x:Rdn.Result):Prop where
 v:iH x.value=true
 d:fD x.data 16=true
 s:-1≤x.spawn∧x.spawn<4
structure rngR (x:Rdn.Result):Prop where
 v:kQ x.value
 d:∀c∈x.data,kQ c
theorem xjc (n:Int):kQ (nH n):=⟨by show 0≤IntKind.u16.wrap n;rw [uD];omega,by show IntKind.u16.wrap n≤65535;rw [uD];omega⟩
theorem kH (n:Int) (ok:Bool):okRes (jU n ok)∧rngR (jU n ok):=by
 have hd:∀c∈([]:List Canon),kQ c:=fun c hc=>by cases hc
 cases ok with
 |true=>exact⟨⟨xbn _,rfl,by show(-1:Int)≤-1∧(-1:Int)<4;decide⟩,⟨xjc n,hd⟩⟩
 |false=>exact⟨⟨rfl,rfl,by show(-1:Int)≤-1∧(-1:Int)<4;decide⟩,⟨by show(0:Int)≤65535∧(65535:Int)≤65535;decide,hd⟩⟩
theorem xk3 {q:Request} (h:okReq q):q.args.length=(kl q.call).length:=by
 have ha:=h.asks;unfold mY xE at ha;simp only [Bool.and_eq_true,decide_eq_true_eq] at ha;have:=ha.2.1;rw [this];simp [uG]
theorem ycr {r:PRn} {C:Int} (h:okRun C r) {q:Request} (k:okReq q) (h0:¬(q.call=0∨q.call=12∨q.call=15)) (h8:¬q.call=8) (h9:¬q.call=9) (h10:¬q.call=10) (h11:¬q.call=11):xd0 r.out q=true:=by
 have hc:=k.F.call;unfold xd0;rw [xah h.out,k.asks,aN k.s16];have:sO q.call=true:=aN ω;rw [this];rfl
theorem yln (l:List PThr):-1≤xb1 l∧xb1 l<4:=by
 unfold xb1
 repeat' split
 all_goals omega
theorem ybw {r:PRn} {C:Int} (h:okRun C r) {q:Request} (k:okReq q):okRun C (lG r q).1∧okRes (lG r q).2:=by
 have hal:=xk3 k;have ht:=k.F.thread;unfold lG;refine aQ (P:=fun z:PRn×Rdn.Result=>okRun C z.1∧okRes z.2) (fun _=>⟨h,(kH 0 true).1⟩) fun h0=>?_;refine aQ (P:=fun z:PRn×Rdn.Result=>okRun C z.1∧okRes z.2) (fun _=>⟨⟨h.mach,h.out,ync h.lk ht.1 ω,h.jl,h.jr,h.rc⟩,?_⟩) fun h8=>?_
 ·obtain⟨⟨a,b,c⟩,-⟩:=kH 0 (decide ((uP r.locks q.args[0]!.val q.thread).2≠2))
  exact⟨a,b,c⟩
 refine aQ (P:=fun z:PRn×Rdn.Result=>okRun C z.1∧okRes z.2) (fun _=>⟨⟨h.mach,h.out,(xq5 h.lk _ _).1,h.jl,h.jr,h.rc⟩,(kH 0 _).1⟩) fun h9=>?_;refine aQ (P:=fun z:PRn×Rdn.Result=>okRun C z.1∧okRes z.2) (fun _=>⟨h,?_⟩) fun h10=>?_
 ·refine aQ (P:=okRes) (fun _=>?_) fun _=>(kH 0 false).1
  obtain⟨⟨a,b,c⟩,-⟩:=kH (xb1 r.mach.thr) true;exact⟨a,b,yln _⟩
 refine aQ (P:=fun z:PRn×Rdn.Result=>okRun C z.1∧okRes z.2) (fun h11=>?_) fun h11=>?_
 ·refine aQ (P:=fun z:PRn×Rdn.Result=>okRun C z.1∧okRes z.2) (fun _=>⟨h,(kH 0 false).1⟩) fun hj=>?_
  refine aQ (P:=fun z:PRn×Rdn.Result=>okRun C z.1∧okRes z.2) (fun _=>⟨h,(kH _ true).1⟩) fun _=>⟨⟨h.mach,h.out,h.lk,by show(r.joins.set _ _).length=4;rw [List.length_set];exact h.jl,fun j hj2=>?_,h.rc⟩,?_⟩
  ·have hr:=k.ra _ (dJ (l:=q.args) (k:=0) (by rw [hal,h11];decide))
   exact xcw (P:=fun j:Int=> -1≤j∧j<4) h.jr (by unfold kQ at hr;omega) hj2
  ·obtain⟨⟨a,b,c⟩,-⟩:=kH 0 true
   exact⟨a,b,c⟩
 ·have hk:=ycr h k h0 h8 h9 h10 h11
  rw [xs9 hk];obtain⟨F,A,B,H⟩:=ybc hk;have K:=(yjb F A B H).r;exact⟨⟨h.mach,yja F A,h.lk,h.jl,h.jr,h.rc⟩,K.v,K.d,by rw [K.s];decide⟩
def xhn (u:Int) (x:Rdn.Result):PEntry:=⟨4,u,0,⟨0,0,0,0,0,0,[],[]⟩,x⟩
def xZ (r:PRn) (u:Nat) (n:Int):PRn:={r with mach:=xhm r.prog r.mach u (jU n true),record:=r.record++[xhn u (jU n true)]}
theorem yf5 (s:List Int) (n:Int) (l:PLay):(iD l s (jU n true).value).2=0:=by
 unfold iD;have hp:mJ s (jU n true).value:=by
  unfold mJ;rw [if_pos (.inl rfl)];exact⟨rfl,rfl⟩
 rw [if_neg (not_not_intro hp),if_pos (show(jU n true).value.tag=0 from rfl)]
theorem yxj {p:PProg} {C:Int} {m:PMach} (h:okMach p C m) {t:Nat} (ht:t<4) {x:Rdn.Result} (hx:kQ x.value):okMach p C (xhm p m t x):=by
 unfold xhm;exact aQ (P:=okMach p C) (fun _=>h.set (Int.le_refl C) h.mem t (yfe (mP h ht) (xff _ _ hx))) fun _=>h
theorem xtb {r:PRn} {C:Int} (h:okRun C r) {u:Nat} (hu:u<4) (n:Int):okRun C (xZ r u n):=
 ⟨yxj h.mach hu (kH n true).2.v,h.out,h.lk,h.jl,h.jr,fun e he=>by
  rcases List.mem_append.1 he with he|he
  ·exact h.rc e he
  ·obtain rfl:=List.mem_singleton.1 he
   exact Nat.zero_le _⟩
def xad (r:PRn) (q:Request) (x:Rdn.Result):PRn:={r with mach:=(xge r.prog r.mach q.thread.toNat q x).1,record:=r.record++[⟨2,q.thread,0,q,x⟩]}
def xf6 (r:PRn) (q:Request):Int:=if q.call=9 then(rW r.locks q.args[0]!.val q.thread).2.1 else-1
noncomputable def callR (r:PRn) (q:Request):PRn:=if 0≤xf6 r q then xZ (xad (lG r q).1 q (lG r q).2) (xf6 r q).toNat 0 else xad (lG r q).1 q (lG r q).2
theorem xmx {r:PRn} {C:Int} (hC:0≤C) (h:okRun C r) {q:Request} (k:okReq q) {x:Rdn.Result} (hx:rngR x):okRun C (xad r q x):=by
 have ht:=k.F.thread;have hal:=xk3 k;refine⟨ylf hC h.mach ω hx.v hx.d k.ra (fun e=>by rw [hal,e];rfl) (fun e=>by rw [hal,e];rfl),h.out,h.lk,h.jl,h.jr,fun e he=>?_⟩;rcases List.mem_append.1 he with he|he
 ·exact h.rc e he
 ·obtain rfl:=List.mem_singleton.1 he
  have:=xer k.F.data;show q.data.length≤16;omega
theorem yaw {r:PRn} {C:Int} (h:okRun C r) (q:Request):-1≤xf6 r q∧xf6 r q<4:=by
 unfold xf6;exact aQ (P:=fun z:Int=> -1≤z∧z<4) (fun _=>(xq5 h.lk _ _).2) fun _=>by decide
theorem xhw {r:PRn} {C:Int} (hC:0≤C) (h:okRun C r) {q:Request} (k:okReq q) (hx:rngR (lG r q).2):okRun C (callR r q):=by
 have hn:=yaw h q;have h1:=xmx hC (ybw h k).1 k hx;unfold callR;exact aQ (P:=okRun C) (fun _=>xtb h1 ω 0) fun _=>h1
def zV (r:PRn) (l:List Int):PRn:=l.foldl (fun r u=>xZ r u.toNat 0) r
def xdr (t:Int) (r:PRn) (u:Nat):PRn:=if r.joins[u]! =t then(fun z:PRn=>{z with joins:=z.joins.set u (-1)}) (xZ r u r.mach.thr[t.toNat]!.code) else r
def xat (t:Int) (r:PRn) (k:Nat):PRn:=(List.range k).foldl (xdr t) r
def xau (r:PRn) (t:Int):PRn:=xat t (zV {r with locks:=(xI r.locks t).1} (xI r.locks t).2) 4
theorem xp3 {C:Int}:∀{l:List Int} {r:PRn},okRun C r→(∀u∈l,0≤u∧u<4)→okRun C (zV r l)
 |[],_,h,_=>h
 |u::l,r,h,hl=>by
  have hu:=hl u ξ;exact xp3 (l:=l) (xtb h (u:=u.toNat) ω 0) fun x hx=>hl x (by simp [hx])
theorem yju {C:Int} {r:PRn} (h:okRun C r) (t:Int) {u:Nat} (hu:u<4):okRun C (xdr t r u):=by
 unfold xdr;refine aQ (P:=okRun C) (fun _=>?_) fun _=>h;have w:=xtb h hu r.mach.thr[t.toNat]!.code;exact⟨w.mach,w.out,w.lk,by show(List.set _ _ _).length=4;rw [List.length_set];exact w.jl,fun j hj=>xcw (P:=fun j:Int=> -1≤j∧j<4) w.jr δ hj,w.rc⟩
theorem xp6 (t:Int) (r:PRn) (k:Nat):xat t r (k+1)=xdr t (xat t r k) k:=by
 unfold xat;rw [List.range_succ,List.foldl_append];rfl
theorem xp5 {C:Int} {r:PRn} (h:okRun C r) (t:Int):∀{k:Nat},k≤4→okRun C (xat t r k)
 |0,_=>h
 |k+1,hk=>by rw [xp6];exact yju (xp5 h t ω) t ω
theorem xoz {r:PRn} {C:Int} (h:okRun C r) (t:Int):okRun C {r with locks:=(xI r.locks t).1}∧∀u∈(xI r.locks t).2,0≤u∧u<4:=by
 obtain⟨d1,-,d3⟩:=xip h.lk t 4;exact⟨⟨h.mach,h.out,d1,h.jl,h.jr,h.rc⟩,d3⟩
theorem yjv {r:PRn} {C:Int} (h:okRun C r) (t:Int):okRun C (xau r t):=xp5 (xp3 (xoz h t).1 (xoz h t).2) t (Nat.le_refl 4)
end Go.Proofs.YthmjocibdepahaaGreat
