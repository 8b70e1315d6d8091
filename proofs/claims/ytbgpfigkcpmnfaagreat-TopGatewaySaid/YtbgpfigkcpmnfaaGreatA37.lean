import Derived.Test.YtbgpfigkcpmnfaaGreatA8
import Derived.Test.YtbgpfigkcpmnfaaGreatA36
import Derived.Test.YtbgpfigkcpmnfaaGreatA6
import Derived.Test.YtbgpfigkcpmnfaaGreatA14
import Derived.Test.YtbgpfigkcpmnfaaGreatA15
import Derived.Test.YtbgpfigkcpmnfaaGreatA25
import Derived.Test.YtbgpfigkcpmnfaaGreatA13
set_option linter.unusedSimpArgs false
set_option linter.unusedVariables false
set_option maxHeartbeats 64000000
set_option maxRecDepth 100000
namespace Go.Proofs.YtbgpfigkcpmnfaaGreat
open Go Go.RowKit Rdn Rdn.Dp
def wakS (p:PProg) (m:PMach) (t:Nat) (x:Rdn.Result):PMach:=if m.thr[t]!.state=3 then m.setT t (xnn m.thr[t]! (rawS m.lay p.sizes x.value).1) else m
theorem yb7 (p:PProg) (m:PMach) (h:okMach p 1099511627776 m) (t:Nat) (ht:t<4) (x:Rdn.Result) (h1:xcw x.value=true) (h2:xba x.data 16=true) (h3:-1≤x.spawn∧x.spawn<4) (hr:(rawS m.lay p.sizes x.value).2=0):Fnc Tryz.prog 114 [xbn false p,xd8 false m,.int .i64 t,resV x] (fun y obs=>y=.tup [xd8 false (wakS p m t x),.bool (decide (m.thr[t]!.state=3))]∧obs=[]):=by
 refine zcf Tryz.prog 114 fun mz=>?_;by_cases hs:m.thr[t]!.state=3
 ·refine Fnc.low ((ylb p m h t ht hs x h1 h2 h3 hr).mono ?_)
  rintro y obs ⟨rfl,rfl⟩
  unfold wakS;rw [if_pos hs,decT hs];refine⟨?_,rfl⟩;simp only [xd8,layV,memV,V.low,V.lows,xd4]
 ·refine Fnc.low ?_
  unfold wakS;rw [if_neg hs,decF hs];have fv:=xuf p m h;have fr:=xpi x h1 h2 h3;have hn:=h.n;refine zgo mz fun W S=>?_;refine zcd (fv) ?_;refine zcd (fr) ?_;exact zrt mz
structure PRn where
 prog:PProg
 mach:PMach
 out:Rdn.Outside
 locks:PLocks
 record:List PEntry
 joins:List Int
def valS (n:Int) (ok:Bool):Rdn.Result:=resB (numR n) [] ok
def xmj (l:List PThr):Int:=if l[0]!.state=0 then 0 else if l[1]!.state=0 then 1 else if l[2]!.state=0 then 2 else if l[3]!.state=0 then 3 else-1
def xqu (r:PRn) (q:Request):PThr:=r.mach.thr[q.args[0]!.val.toNat]!
noncomputable def xdg (r:PRn) (q:Request):PRn×Rdn.Result:=
 if q.call=0∨q.call=12∨q.call=15 then(r,valS 0 true)
 else if q.call=8 then({r with locks:=(xeg r.locks q.args[0]!.val q.thread).1},{valS 0 (decide ((xeg r.locks q.args[0]!.val q.thread).2≠2)) with wait:=decide ((xeg r.locks q.args[0]!.val q.thread).2=1)})
 else if q.call=9 then({r with locks:=(xdi r.locks q.args[0]!.val q.thread).1},valS 0 (xdi r.locks q.args[0]!.val q.thread).2.2)
 else if q.call=10 then(r,if 0≤xmj r.mach.thr then {valS (xmj r.mach.thr) true with spawn:=xmj r.mach.thr} else valS 0 false)
 else if q.call=11 then
  if q.args[0]!.val=q.thread∨4≤q.args[0]!.val∨(xqu r q).state=0 then(r,valS 0 false)
  else if(xqu r q).state=4 then(r,valS (xqu r q).code true)
  else({r with joins:=r.joins.set q.thread.toNat q.args[0]!.val},{valS 0 true with wait:=true})
 else({r with out:=(sDo r.out q).1},(sDo r.out q).2.1)
structure okReq (q:Request):Prop where
 F:FitQ q
 st:q.stop=1
 asks:xe2 q=true
 s16:xt5 q
 ra:∀c∈q.args,rngC c
structure okRun (C:Int) (r:PRn):Prop where
 mach:okMach r.prog C r.mach
 out:FitO r.out
 lk:okLk r.locks
 jl:r.joins.length=4
 jr:∀j∈r.joins,-1≤j∧j<4
 rc:∀e∈r.record,e.req.data.length≤16
structure okRes (x:Rdn.Result):Prop where
 v:xcw x.value=true
 d:xba x.data 16=true
 s:-1≤x.spawn∧x.spawn<4
structure rngR (x:Rdn.Result):Prop where
 v:rngC x.value
 d:∀c∈x.data,rngC c
theorem xjj (n:Int):rngC (numR n):=⟨by show 0≤IntKind.u16.wrap n;rw [xbs];omega,by show IntKind.u16.wrap n≤65535;rw [xbs];omega⟩
theorem xb4 (n:Int) (ok:Bool):okRes (valS n ok)∧rngR (valS n ok):=by
 have hd:∀c∈([]:List Canon),rngC c:=fun c hc=>by cases hc
 cases ok with
 |true=>exact⟨⟨xea _,rfl,by show(-1:Int)≤-1∧(-1:Int)<4;decide⟩,⟨xjj n,hd⟩⟩
 |false=>exact⟨⟨rfl,rfl,by show(-1:Int)≤-1∧(-1:Int)<4;decide⟩,⟨by show(0:Int)≤65535∧(65535:Int)≤65535;decide,hd⟩⟩
theorem xoc {q:Request} (h:okReq q):q.args.length=(kl q.call).length:=by
 have ha:=h.asks;unfold xe2 xja at ha;simp only [Bool.and_eq_true,decide_eq_true_eq] at ha;have:=ha.2.1;rw [this];simp [xhh]
theorem yf3 {r:PRn} {C:Int} (h:okRun C r) {q:Request} (k:okReq q) (h0:¬(q.call=0∨q.call=12∨q.call=15)) (h8:¬q.call=8) (h9:¬q.call=9) (h10:¬q.call=10) (h11:¬q.call=11):okDo r.out q=true:=by
 have hc:=k.F.call;unfold okDo;rw [xhe h.out,k.asks,decT k.s16];have:actB q.call=true:=decT (by omega);rw [this];rfl
theorem xsn (l:List PThr):-1≤xmj l∧xmj l<4:=by
 unfold xmj
 repeat' split
 all_goals omega
theorem xzm {r:PRn} {C:Int} (h:okRun C r) {q:Request} (k:okReq q):okRun C (xdg r q).1∧okRes (xdg r q).2:=by
 have hal:=xoc k;have ht:=k.F.thread;unfold xdg;refine xa6 (P:=fun z:PRn×Rdn.Result=>okRun C z.1∧okRes z.2) (fun _=>⟨h,(xb4 0 true).1⟩) fun h0=>?_;refine xa6 (P:=fun z:PRn×Rdn.Result=>okRun C z.1∧okRes z.2) (fun _=>⟨⟨h.mach,h.out,xyu h.lk ht.1 (by omega),h.jl,h.jr,h.rc⟩,?_⟩) fun h8=>?_
 ·obtain⟨⟨a,b,c⟩,-⟩:=xb4 0 (decide ((xeg r.locks q.args[0]!.val q.thread).2≠2))
  exact⟨a,b,c⟩
 refine xa6 (P:=fun z:PRn×Rdn.Result=>okRun C z.1∧okRes z.2) (fun _=>⟨⟨h.mach,h.out,(xmp h.lk _ _).1,h.jl,h.jr,h.rc⟩,(xb4 0 _).1⟩) fun h9=>?_;refine xa6 (P:=fun z:PRn×Rdn.Result=>okRun C z.1∧okRes z.2) (fun _=>⟨h,?_⟩) fun h10=>?_
 ·refine xa6 (P:=okRes) (fun _=>?_) fun _=>(xb4 0 false).1
  obtain⟨⟨a,b,c⟩,-⟩:=xb4 (xmj r.mach.thr) true;exact⟨a,b,xsn _⟩
 refine xa6 (P:=fun z:PRn×Rdn.Result=>okRun C z.1∧okRes z.2) (fun h11=>?_) fun h11=>?_
 ·refine xa6 (P:=fun z:PRn×Rdn.Result=>okRun C z.1∧okRes z.2) (fun _=>⟨h,(xb4 0 false).1⟩) fun hj=>?_
  refine xa6 (P:=fun z:PRn×Rdn.Result=>okRun C z.1∧okRes z.2) (fun _=>⟨h,(xb4 _ true).1⟩) fun _=>⟨⟨h.mach,h.out,h.lk,by show(r.joins.set _ _).length=4;rw [List.length_set];exact h.jl,fun j hj2=>?_,h.rc⟩,?_⟩
  ·have hr:=k.ra _ (xam (l:=q.args) (k:=0) (by rw [hal,h11];decide))
   exact xh0 (P:=fun j:Int=> -1≤j∧j<4) h.jr (by unfold rngC at hr;omega) hj2
  ·obtain⟨⟨a,b,c⟩,-⟩:=xb4 0 true
   exact⟨a,b,c⟩
 ·have hk:=yf3 h k h0 h8 h9 h10 h11
  rw [yhz hk];obtain⟨F,A,B,H⟩:=xza hk;have K:=(xxa F A B H).r;exact⟨⟨h.mach,yft F A,h.lk,h.jl,h.jr,h.rc⟩,K.v,K.d,by rw [K.s];decide⟩
def xwl (u:Int) (x:Rdn.Result):PEntry:=⟨4,u,0,⟨0,0,0,0,0,0,[],[]⟩,x⟩
def xk1 (r:PRn) (u:Nat) (n:Int):PRn:={r with mach:=wakS r.prog r.mach u (valS n true),record:=r.record++[xwl u (valS n true)]}
theorem xrs (s:List Int) (n:Int) (l:PLay):(rawS l s (valS n true).value).2=0:=by
 unfold rawS;have hp:xgi s (valS n true).value:=by
  unfold xgi;rw [if_pos (.inl rfl)];exact⟨rfl,rfl⟩
 rw [if_neg (not_not_intro hp),if_pos (show(valS n true).value.tag=0 from rfl)]
theorem yix {p:PProg} {C:Int} {m:PMach} (h:okMach p C m) {t:Nat} (ht:t<4) {x:Rdn.Result} (hx:rngC x.value):okMach p C (wakS p m t x):=by
 unfold wakS;exact xa6 (P:=okMach p C) (fun _=>h.set (Int.le_refl C) h.mem t (xvk (xcm h ht) (xkw _ _ hx))) fun _=>h
theorem xtm {r:PRn} {C:Int} (h:okRun C r) {u:Nat} (hu:u<4) (n:Int):okRun C (xk1 r u n):=
 ⟨yix h.mach hu (xb4 n true).2.v,h.out,h.lk,h.jl,h.jr,fun e he=>by
  rcases List.mem_append.1 he with he|he
  ·exact h.rc e he
  ·obtain rfl:=List.mem_singleton.1 he
   exact Nat.zero_le _⟩
def putR (r:PRn) (q:Request) (x:Rdn.Result):PRn:={r with mach:=(finS r.prog r.mach q.thread.toNat q x).1,record:=r.record++[⟨2,q.thread,0,q,x⟩]}
def xsw (r:PRn) (q:Request):Int:=if q.call=9 then(xdi r.locks q.args[0]!.val q.thread).2.1 else-1
noncomputable def callR (r:PRn) (q:Request):PRn:=if 0≤xsw r q then xk1 (putR (xdg r q).1 q (xdg r q).2) (xsw r q).toNat 0 else putR (xdg r q).1 q (xdg r q).2
theorem xux {r:PRn} {C:Int} (hC:0≤C) (h:okRun C r) {q:Request} (k:okReq q) {x:Rdn.Result} (hx:rngR x):okRun C (putR r q x):=by
 have ht:=k.F.thread;have hal:=xoc k;refine⟨yg6 hC h.mach (by omega) hx.v hx.d k.ra (fun e=>by rw [hal,e];rfl) (fun e=>by rw [hal,e];rfl),h.out,h.lk,h.jl,h.jr,fun e he=>?_⟩;rcases List.mem_append.1 he with he|he
 ·exact h.rc e he
 ·obtain rfl:=List.mem_singleton.1 he
  have:=xfb k.F.data;show q.data.length≤16;omega
theorem xmv {r:PRn} {C:Int} (h:okRun C r) (q:Request):-1≤xsw r q∧xsw r q<4:=by
 unfold xsw;exact xa6 (P:=fun z:Int=> -1≤z∧z<4) (fun _=>(xmp h.lk _ _).2) fun _=>by decide
theorem xm7 {r:PRn} {C:Int} (hC:0≤C) (h:okRun C r) {q:Request} (k:okReq q) (hx:rngR (xdg r q).2):okRun C (callR r q):=by
 have hn:=xmv h q;have h1:=xux hC (xzm h k).1 k hx;unfold callR;exact xa6 (P:=okRun C) (fun _=>xtm h1 (by omega) 0) fun _=>h1
def endA (r:PRn) (l:List Int):PRn:=l.foldl (fun r u=>xk1 r u.toNat 0) r
def endJ (t:Int) (r:PRn) (u:Nat):PRn:=if r.joins[u]! =t then(fun z:PRn=>{z with joins:=z.joins.set u (-1)}) (xk1 r u r.mach.thr[t.toNat]!.code) else r
def endN (t:Int) (r:PRn) (k:Nat):PRn:=(List.range k).foldl (endJ t) r
def endR (r:PRn) (t:Int):PRn:=endN t (endA {r with locks:=(xft r.locks t).1} (xft r.locks t).2) 4
theorem xsd {C:Int}:∀{l:List Int} {r:PRn},okRun C r→(∀u∈l,0≤u∧u<4)→okRun C (endA r l)
 |[],_,h,_=>h
 |u::l,r,h,hl=>by
  have hu:=hl u (by simp);exact xsd (l:=l) (xtm h (u:=u.toNat) (by omega) 0) fun x hx=>hl x (by simp [hx])
theorem yfx {C:Int} {r:PRn} (h:okRun C r) (t:Int) {u:Nat} (hu:u<4):okRun C (endJ t r u):=by
 unfold endJ;refine xa6 (P:=okRun C) (fun _=>?_) fun _=>h;have w:=xtm h hu r.mach.thr[t.toNat]!.code;exact⟨w.mach,w.out,w.lk,by show(List.set _ _ _).length=4;rw [List.length_set];exact w.jl,fun j hj=>xh0 (P:=fun j:Int=> -1≤j∧j<4) w.jr (by decide) hj,w.rc⟩
theorem xmf (t:Int) (r:PRn) (k:Nat):endN t r (k+1)=endJ t (endN t r k) k:=by
 unfold endN;rw [List.range_succ,List.foldl_append];rfl
theorem xse {C:Int} {r:PRn} (h:okRun C r) (t:Int):∀{k:Nat},k≤4→okRun C (endN t r k)
 |0,_=>h
 |k+1,hk=>by rw [xmf];exact yfx (xse h t (by omega)) t (by omega)
theorem xsb {r:PRn} {C:Int} (h:okRun C r) (t:Int):okRun C {r with locks:=(xft r.locks t).1}∧∀u∈(xft r.locks t).2,0≤u∧u<4:=by
 obtain⟨d1,-,d3⟩:=xgd h.lk t 4;exact⟨⟨h.mach,h.out,d1,h.jl,h.jr,h.rc⟩,d3⟩
theorem yjp {r:PRn} {C:Int} (h:okRun C r) (t:Int):okRun C (endR r t):=xse (xsd (xsb h t).1 (xsb h t).2) t (Nat.le_refl 4)
abbrev rowI (l:List Int):Ob:=⟨.row 3,true,0,.arr 1 (i64s l)⟩
abbrev rowQ (l:List (List Int)):Ob:=⟨.row 22,true,0,.arr 1 (l.map (slV' true 1 (V.int .i64)))⟩
theorem pig:∀(n:Nat) (q:List Int),q.Nodup→(∀x∈q,0≤x∧x<(n:Int))→q.length≤n
 |0,q,_,h=>by
  cases q with
  |nil=>simp
  |cons a t=>have:=h a (by simp);omega
 |n+1,q,hn,h=>by
  have h5:=pig n (q.erase (n:Int)) (hn.erase _) (fun x hx=>by
   have h1:=(hn.mem_erase_iff).1 hx;have h2:=h x h1.2;have h3:=h1.1;omega)
  have h4:q.length≤(q.erase (n:Int)).length+1:=by rw [List.length_erase];split<;>omega
  omega
theorem qlen {q:List Int} (h:q.Nodup∧∀x∈q,0≤x∧x<4):q.length≤4:=by
 exact pig 4 q h.1 h.2
theorem xym (l:PLocks) (h:okLk l):Fnc Tryz.prog 107 [xcf false l] (fun x obs=>x=.agg [.own 0 0,.own 1 0]∧obs=[rowI l.owner,rowQ l.queue]):=by
 refine zcf Tryz.prog 107 fun mz=>?_;obtain⟨ow,qu⟩:=l;obtain⟨k1,k2,k3,k4⟩:=h;have lq:∀x∈qu,x.length≤4:=fun x hx=>qlen (k4 x hx);obtain⟨x0,x1,x2,x3,rfl⟩:=four k2;have l0:=lq x0 (by simp);have l1:=lq x1 (by simp);have l2:=lq x2 (by simp);have l3:=lq x3 (by simp);clear lq k4 k3 k2;dsimp only at k1;simp only [rowI,rowQ,List.map_cons,List.map_nil];refine zgo mz fun W S=>?_;refine xb8 3 1 22 1 rfl rfl (by decide) rfl ?_;refine xad 5 ?_;refine zst ?_;refine retN mz [2,4] ?_;exact zfn
theorem xyr (l:PLocks) (h:okLk l) (k t:Int):Fnc Tryz.prog 87 [xcf false l,.int .i64 k,.int .i64 t] (fun x obs=>x=.tup [xcf true (xdi l k t).1,.int .i64 (xdi l k t).2.1,.bool (xdi l k t).2.2]∧obs=[]):=by
 refine zcf Tryz.prog 87 fun mz=>?_;have fc:=xym l h;have ho:=h.o;have hq:=h.q;unfold xdi;by_cases k0:k<0
 ·rw [if_pos (.inl k0)]
  refine zgo mz fun W S=>?_;refine zcx (fc) ?_;exact zrt mz
 by_cases k1:4≤k
 ·rw [if_pos (.inr (.inl k1))]
  refine zgo mz fun W S=>?_;refine zcx (fc) ?_;exact zrt mz
 obtain⟨K,rfl⟩:∃K:Nat,k=K:=⟨k.toNat,by omega⟩;rw [Int.toNat_natCast];by_cases k2:l.owner[K]!≠t
 ·rw [if_pos (.inr (.inr k2))]
  refine zgo mz fun W S=>?_;refine zcx (fc) ?_;exact zrt mz
 rw [if_neg (by simp only [not_or];exact⟨k0,k1,k2⟩)];replace k2:l.owner[K]! =t:=Classical.not_not.1 k2;have hK:K=0∨K=1∨K=2∨K=3:=by omega
 obtain⟨ow,qu⟩:=l;obtain⟨w0,w1,w2,w3,rfl⟩:=four ho;obtain⟨q0,q1,q2,q3,rfl⟩:=four hq;simp only [rowI,rowQ,xcf,slV',List.map_cons,List.map_nil] at fc;clear h ho hq;rcases hK with rfl|rfl|rfl|rfl
 all_goals
  simp only [List.getElem!_cons_zero,List.getElem!_cons_succ,List.set_cons_zero,List.set_cons_succ] at k2⊢;subst k2
 ·cases q0 with
  |nil=>
   simp only [List.map_cons,List.map_nil] at fc;refine zgo mz fun W S=>?_;refine zcx (fc) ?_;exact zrt mz
  |cons x w=>
   have hm0:((x::w).length:Int)>0:=by simp only [List.length_cons];omega
   have hw:(w.map (V.int .i64)).take w.length=w.map (V.int .i64):=List.take_of_length_le (by simp);simp only [List.map_cons,List.map_nil] at fc;refine zgo mz fun W S=>?_;refine zcx (fc) ?_;simp only [hw];exact zrt mz
 ·cases q1 with
  |nil=>
   simp only [List.map_cons,List.map_nil] at fc;refine zgo mz fun W S=>?_;refine zcx (fc) ?_;exact zrt mz
  |cons x w=>
   have hm0:((x::w).length:Int)>0:=by simp only [List.length_cons];omega
   have hw:(w.map (V.int .i64)).take w.length=w.map (V.int .i64):=List.take_of_length_le (by simp);simp only [List.map_cons,List.map_nil] at fc;refine zgo mz fun W S=>?_;refine zcx (fc) ?_;simp only [hw];exact zrt mz
 ·cases q2 with
  |nil=>
   simp only [List.map_cons,List.map_nil] at fc;refine zgo mz fun W S=>?_;refine zcx (fc) ?_;exact zrt mz
  |cons x w=>
   have hm0:((x::w).length:Int)>0:=by simp only [List.length_cons];omega
   have hw:(w.map (V.int .i64)).take w.length=w.map (V.int .i64):=List.take_of_length_le (by simp);simp only [List.map_cons,List.map_nil] at fc;refine zgo mz fun W S=>?_;refine zcx (fc) ?_;simp only [hw];exact zrt mz
 ·cases q3 with
  |nil=>
   simp only [List.map_cons,List.map_nil] at fc;refine zgo mz fun W S=>?_;refine zcx (fc) ?_;exact zrt mz
  |cons x w=>
   have hm0:((x::w).length:Int)>0:=by simp only [List.length_cons];omega
   have hw:(w.map (V.int .i64)).take w.length=w.map (V.int .i64):=List.take_of_length_le (by simp);simp only [List.map_cons,List.map_nil] at fc;refine zgo mz fun W S=>?_;refine zcx (fc) ?_;simp only [hw];exact zrt mz
def outQ (t:Int) (w:List Int):List Int:=w.filter fun x=>x !=t
def mixQ (t:Int) (l:List (List Int)) (k:Nat):List (List Int):=(l.map (outQ t)).take k++l.drop k
theorem ykd (t:Int) (l:List (List Int)):mixQ t l 0=l:=by simp [mixQ]
theorem yc1 (t:Int) (l:List (List Int)):mixQ t l l.length=l.map (outQ t):=by
 unfold mixQ;rw [List.drop_length,List.append_nil];exact List.take_of_length_le (by simp)
theorem yc2 (t:Int) (l:List (List Int)) {k:Nat} (h:k≤l.length):(mixQ t l k).length=l.length:=by simp [mixQ];omega
theorem ygp (t:Int) (l:List (List Int)) {k:Nat} (h:k<l.length):(mixQ t l k)[k]! =l[k]!:=by
 unfold mixQ;rw [List.getElem!_eq_getElem?_getD,List.getElem?_append_right (by simp;omega),List.getElem!_eq_getElem?_getD,List.getElem?_drop]
 congr 2
 simp;omega
theorem xyz (t:Int) (l:List (List Int)) {k:Nat} (h:k<l.length):(mixQ t l k).set k (outQ t l[k]!)=mixQ t l (k+1):=by
 unfold mixQ;rw [List.set_append_right _ _ (by simp;omega),List.take_add_one];simp [h,Nat.min_eq_left (Nat.le_of_lt h)];rw [List.drop_eq_getElem_cons h];rfl
theorem ycc (t:Int) (w:List Int):(outQ t w).length≤w.length:=List.length_filter_le _ _
theorem xr8 {t:Int} {w:List Int} {j:Nat} (hj:j<w.length):outQ t (w.take (j+1))=outQ t (w.take j)++outQ t [w[j]!]:=by
 unfold outQ;rw [List.take_add_one,List.filter_append];simp [hj]
theorem ykn {t:Int} {w:List Int} {j:Nat} (hj:j<w.length) (h:w[j]! =t):outQ t (w.take (j+1))=outQ t (w.take j):=by
 rw [xr8 hj,h];simp [outQ]
theorem yko {t:Int} {w:List Int} {j:Nat} (hj:j<w.length) (h:¬w[j]! =t):outQ t (w.take (j+1))=outQ t (w.take j)++[w[j]!]:=by
 rw [xr8 hj]
 congr 1
 unfold outQ;rw [List.filter_cons_of_pos (by simpa using h)];rfl
theorem yk6 (l:PLocks) (h:okLk l) (t:Int):Fnc Tryz.prog 91 [xcf false l,.int .i64 t] (fun x obs=>x=.tup [xcf false (xft l t).1,.sl true 1 (i64s (xft l t).2)]∧obs=[]):=by
 refine zcf Tryz.prog 91 fun mz=>?_;have fc:=xym l h;have ho:=h.o;have hq:=h.q;have hz:=ykd t l.queue;refine zgo mz fun W S=>?_;refine zcx (fc) ?_;refine xay [1,4,6,20,21] (fun q:{q:Nat // q≤4}=>[(22,.int .i64 q.1)]) (fun q=>[⟨.box false 50,true,0,xcf false l⟩,⟨.box false 50,true,0,.agg [.nilS,.nilS]⟩,rowI l.owner,rowQ (mixQ t l.queue q.1),⟨.box false 50,true,0,.agg [.own 2 0,.own 3 0]⟩]) (fun q=>4-q.1) (⟨0,by omega⟩) 5 (by simp only [go_sem];rfl) ?_ (by first|rfl|(simp only [go_sem];done)|(simp only [go_sem];simp [hz];done)) (by simp) (by first|rfl|(simp only [go_sem];done)) (by first|rfl|(simp only [go_sem];done)) (by first|rfl|(simp only [go_sem];done)|(simp only [hz];(try simp only [go_sem]);first|done|rfl)) ?_
 ·(simp only [go_sem];(try simp [hz]);done)
 intro J hJ
 rintro⟨k,hk0⟩
 have hml:=yc2 t l.queue (k:=k) (by omega);by_cases hlt:k<4
 ·have hat:=ygp t l.queue (k:=k) (by omega)
  refine zst ?_;simp only [hat];have hw4:l.queue[k]!.length≤4:=qlen (h.qu _ (xam (by omega)));have hJo:=hJ;have hz0:outQ t []=[]:=rfl;refine xcy (i:=9) (e:=3) (s:=1) rfl (by decide) ?_;refine xay [1,4,6,7,20,21,22,27,28] (fun q:{q:Nat // q≤l.queue[k]!.length}=>[(9,.own 5 (outQ t (l.queue[k]!.take q.1)).length),(29,.int .i64 q.1)]) (fun q=>[⟨.box false 50,true,0,xcf false l⟩,⟨.box false 50,true,0,.agg [.nilS,.nilS]⟩,rowI l.owner,rowQ (mixQ t l.queue k),⟨.box false 50,true,0,.agg [.own 2 0,.own 3 0]⟩,⟨.row 3,true,(outQ t (l.queue[k]!.take q.1)).length,.arr 1 (i64s (outQ t (l.queue[k]!.take q.1)))⟩]) (fun q=>l.queue[k]!.length-q.1) (⟨0,by omega⟩) 6 (by simp only [go_sem];rfl) ?_ (by first|rfl|(simp only [go_sem];done)|(simp only [go_sem];simp [hz0];done)) (by simp) (by first|rfl|(simp only [go_sem];done)) (by first|rfl|(simp only [go_sem];done)) (by first|rfl|(simp only [go_sem];done)|(simp only [hz0];(try simp only [go_sem]);first|done|rfl)) ?_
  ·(simp only [go_sem];(try simp [hz0]);done)
  intro J hJ
  rintro⟨j,hj0⟩
  by_cases hlj:j<l.queue[k]!.length
  ·have hle:=ycc t (l.queue[k]!.take j)
   have htl:(l.queue[k]!.take j).length≤4:=by rw [List.length_take];omega
   by_cases hne:l.queue[k]![j]! =t
   ·have hsn:=ykn (t:=t) hlj hne
    refine zst ?_;exact znx 6 (hJ _ (⟨j+1,hlj⟩) (by dsimp only;omega)) (by refine⟨rfl,by simp,?_,?_,?_,?_⟩<;>first|rfl|exact trivial|(simp only [go_sem];done)|(simp only [go_sem];simp only [hsn];rfl)|(simp only [hsn,List.length_append,List.length_cons,List.length_nil];done)|(simp only [hsn,List.length_append,List.length_cons,List.length_nil];rfl)|(simp only [go_sem];simp only [hsn,List.length_append,List.length_cons,List.length_nil];done)|(simp only [go_sem];simp only [hsn,List.length_append,List.length_cons,List.length_nil];rfl)|(simp only [go_sem];simp only [hsn,List.length_append,List.length_cons,List.length_nil];(repeat' (refine And.intro ?_ ?_))<;>first|exact trivial|rfl)|(simp only [go_sem];(repeat' (refine And.intro ?_ ?_))<;>first|exact trivial|rfl))
   ·have hsn:=yko (t:=t) hlj hne
    refine zst ?_;exact znx 6 (hJ _ (⟨j+1,hlj⟩) (by dsimp only;omega)) (by refine⟨rfl,by simp,?_,?_,?_,?_⟩<;>first|rfl|exact trivial|(simp only [go_sem];done)|(simp only [go_sem];simp only [hsn];rfl)|(simp only [hsn,List.length_append,List.length_cons,List.length_nil];done)|(simp only [hsn,List.length_append,List.length_cons,List.length_nil];rfl)|(simp only [go_sem];simp only [hsn,List.length_append,List.length_cons,List.length_nil];done)|(simp only [go_sem];simp only [hsn,List.length_append,List.length_cons,List.length_nil];rfl)|(simp only [go_sem];simp only [hsn,List.length_append,List.length_cons,List.length_nil];(repeat' (refine And.intro ?_ ?_))<;>first|exact trivial|rfl)|(simp only [go_sem];(repeat' (refine And.intro ?_ ?_))<;>first|exact trivial|rfl))
  obtain rfl:j=l.queue[k]!.length:=by omega
  rw [List.take_length] at *;refine zst ?_;simp only [xyz t l.queue (show k<l.queue.length by omega)];exact znx 5 (hJo _ (⟨k+1,hlt⟩) (by dsimp only;omega)) (by refine⟨rfl,by simp,?_,?_,?_,?_⟩<;>first|rfl|exact trivial|(simp only [go_sem];done)|(simp only [go_sem];(repeat' (refine And.intro ?_ ?_))<;>first|exact trivial|rfl))
 obtain rfl:k=4:=by omega
 have hme:mixQ t l.queue 4=l.queue.map (outQ t):=by rw [←hq];exact yc1 t l.queue
 rw [hme];refine zst ?_;refine xqd 4 0 2 rfl rfl rfl ?_;refine zls ?_;refine xqd 4 1 3 rfl rfl rfl ?_;refine zls ?_;refine xcy (i:=12) (e:=3) (s:=1) rfl (by decide) ?_;refine xa7 false [0,1,4,5] [1,4,6,12,49,50] (by simp only [go_sem]) (by simp only [go_sem]) ?_;simp only [go_sem];have hd0:xep l t 0=(xyt l t,[]):=rfl;have hlo:xyt l t=⟨l.owner,l.queue.map (outQ t)⟩:=rfl;refine xay [1,4,6,49] (fun q:{q:Nat // q≤4}=>[(12,.own 3 0),(50,.int .i64 q.1)]) (fun q=>[⟨.box false 50,true,0,xcf false l⟩,⟨.box false 50,true,0,.agg [.nilS,.nilS]⟩,⟨.box false 50,true,0,xcf false (xep l t q.1).1⟩,⟨.row 3,true,0,.arr 1 (i64s (xep l t q.1).2)⟩]) (fun q=>4-q.1) (⟨0,by omega⟩) 4 (by simp only [go_sem];rfl) ?_ (by first|rfl|(simp only [go_sem];done)|(simp only [go_sem];simp [hd0,hlo,outQ];done)) (by simp) (by first|rfl|(simp only [go_sem];done)) (by first|rfl|(simp only [go_sem];done)) (by first|rfl|(simp only [go_sem];done)|(simp only [hd0,hlo,outQ];(try simp only [go_sem]);first|done|rfl)) ?_
 ·(simp only [go_sem];(try simp [hd0,hlo,outQ]);done)
 intro J hJ
 rintro⟨k,hk0⟩
 obtain⟨okk,hl2,hr2⟩:=xgd h t k;by_cases hlt:k<4
 ·have fg:=xyr _ okk k t
  have hs1:=xku l t k;unfold xue at hs1;obtain⟨s,hs⟩:∃s,xep l t k=s:=⟨_,rfl⟩;rw [hs] at okk hl2 hr2 fg hs1;simp only [hs];generalize xdi s.1 k t=G at fg hs1;obtain⟨l',o,b⟩:=G;dsimp only at fg hs1;cases b with
  |false=>
   rw [if_neg (by simp)] at hs1;refine zst ?_;refine zcd (fg) ?_;refine xa7 false [0,1,2,3] [1,4,6,12,49,50] (by simp only [go_sem]) (by simp only [go_sem]) ?_;simp only [go_sem];exact znx 4 (hJ _ (⟨k+1,hlt⟩) (by dsimp only;omega)) (by refine⟨rfl,by simp,?_,?_,?_,?_⟩<;>first|rfl|exact trivial|(simp only [go_sem];done)|(simp only [hs1];rfl)|(simp only [hs1];simp only [go_sem];done)|(simp only [go_sem];simp only [hs1];rfl)|(simp only [go_sem];simp only [hs1,List.length_append,List.length_cons,List.length_nil];done)|(simp only [go_sem];simp only [hs1,List.length_append,List.length_cons,List.length_nil];rfl)|(simp only [go_sem];(repeat' (refine And.intro ?_ ?_))<;>first|exact trivial|rfl))
  |true=>
   by_cases h0:0≤o
   ·rw [if_pos ⟨rfl,h0⟩] at hs1
    have h0':o≥0:=h0;refine zst ?_;refine zcd (fg) ?_;refine xa7 false [0,1,2,3] [1,4,6,12,49,50] (by simp only [go_sem]) (by simp only [go_sem]) ?_;simp only [go_sem];exact znx 4 (hJ _ (⟨k+1,hlt⟩) (by dsimp only;omega)) (by refine⟨rfl,by simp,?_,?_,?_,?_⟩<;>first|rfl|exact trivial|(simp only [go_sem];done)|(simp only [hs1];rfl)|(simp only [hs1];simp only [go_sem];done)|(simp only [go_sem];simp only [hs1];rfl)|(simp only [go_sem];simp only [hs1,List.length_append,List.length_cons,List.length_nil];done)|(simp only [go_sem];simp only [hs1,List.length_append,List.length_cons,List.length_nil];rfl)|(simp only [go_sem];(repeat' (refine And.intro ?_ ?_))<;>first|exact trivial|rfl))
   ·rw [if_neg (fun q=>h0 q.2)] at hs1
    have h0':¬o≥0:=h0;refine zst ?_;refine zcd (fg) ?_;refine xa7 false [0,1,2,3] [1,4,6,12,49,50] (by simp only [go_sem]) (by simp only [go_sem]) ?_;simp only [go_sem];exact znx 4 (hJ _ (⟨k+1,hlt⟩) (by dsimp only;omega)) (by refine⟨rfl,by simp,?_,?_,?_,?_⟩<;>first|rfl|exact trivial|(simp only [go_sem];done)|(simp only [hs1];rfl)|(simp only [hs1];simp only [go_sem];done)|(simp only [go_sem];simp only [hs1];rfl)|(simp only [go_sem];simp only [hs1,List.length_append,List.length_cons,List.length_nil];done)|(simp only [go_sem];simp only [hs1,List.length_append,List.length_cons,List.length_nil];rfl)|(simp only [go_sem];(repeat' (refine And.intro ?_ ?_))<;>first|exact trivial|rfl))
 obtain rfl:k=4:=by omega
 unfold xft;refine zst ?_;exact zrt mz
def st0 (k:Nat):PThr:=if k=0 then {thr0 with state:=1} else thr0
def stL (k:Nat):List PThr:=(List.range k).map st0
theorem ydm (k:Nat):stL (k+1)=stL k++[st0 k]:=by
 unfold stL;rw [List.range_succ,List.map_append];rfl
theorem yig (k:Nat):(stL k).length=k:=by simp [stL]
theorem yl5 (p:PProg) (l:PLay) (hp:okProg p) (h:xeh l p.sizes):Fnc Tryz.prog 41 [xbn false p,layV false l] (fun x obs=>x=.tup [xd8 true (xoa p l),.int .i64 0]∧obs=[]):=by
 refine zcf Tryz.prog 41 fun mz=>?_;have fk:=ye9 p hp;have fv:=xyl l p.sizes h;have fm:=ykf p l hp h;have hlb:=h.2.1;have hs4:=hp.sz.2.2;refine Fnc.intro mz (by simp) fun W S=>?_;simp only [ents,Nat.zero_add,Nat.reduceAdd,Qm,Qc,Ql,QL,Qf,Qs,Qb,Qk,QB,Qn,Qe,Qx,Qt,Qu,Q0,Q1,Qp,Qw,Qq,Qr,Qi];refine zso ?_
 (first|refine xaj (fk) ?_|refine xaa (fk) ?_);refine zev ?_
 refine zso ?_
 (first|refine xaj (fv) ?_|refine xaa (fv) ?_);refine zev ?_
 refine zso ?_
 (first|refine xaj (fm) ?_|refine xaa (fm) ?_);refine zev ?_
 refine zso ?_;refine zst ?_;refine xb8 4 2 148 8 rfl rfl (by decide) rfl ?_;refine zls ?_;refine zlk [4,9] (fun q:{q:Nat // q≤4}=>[(38,.int .i64 q.1)]) (fun q=>[⟨.box false 29,true,0,xbn false p⟩,⟨.box false 32,true,0,layV false l⟩,⟨.box false 39,true,0,.agg [.agg [.nilS,.int .u16 0],.agg [.nilS,.nilS],.nilS]⟩,⟨.box false 36,true,0,memV true (xyo p l)⟩,⟨.box false 39,true,1,.agg [layV true l,memV true (xyo p l),.own 5 q.1]⟩,⟨.row 148,true,q.1,.arr 8 ((stL q.1).map (thrV true))⟩]) (fun q=>4-q.1) (⟨0,by omega⟩) 6 ?_;intro J hJ
 rintro⟨k,hk0⟩
 by_cases hlt:k<4
 ·have hal:=yig k
  have hz:(List.replicate 8 c0).map xau=List.replicate 8 (V.agg [.int .u8 0,.int .u16 0]):=by rw [List.map_replicate];rfl
  have hsn:(stL (k+1)).map (thrV true)=(stL k).map (thrV true)++[thrV true (st0 k)]:=by rw [ydm,List.map_append];rfl
  rcases Nat.eq_zero_or_pos k with rfl|hpos
  ·refine zst ?_
   exact znx 6 (hJ _ (⟨0+1,hlt⟩) (by dsimp only;omega)) (by refine⟨rfl,by simp,?_,?_,?_,?_⟩<;>first|rfl|exact trivial|(simp only [go_sem];done)|(simp only [hsn];rfl)|(simp only [hsn];simp only [go_sem];done)|(simp only [go_sem];simp only [hsn];rfl)|(simp only [go_sem];(repeat' (refine And.intro ?_ ?_))<;>first|exact trivial|rfl))
  have hne:¬((k:Int)=0):=by omega
  rw [show st0 k=thr0 from if_neg (by omega)] at hsn;refine zst ?_;exact znx 6 (hJ _ (⟨k+1,hlt⟩) (by dsimp only;omega)) (by refine⟨rfl,by simp,?_,?_,?_,?_⟩<;>first|rfl|exact trivial|(simp only [go_sem];done)|(simp only [hsn];rfl)|(simp only [hsn];simp only [go_sem];done)|(simp only [go_sem];simp only [hsn];rfl)|(simp only [go_sem];(repeat' (refine And.intro ?_ ?_))<;>first|exact trivial|rfl))
 obtain rfl:k=4:=by omega
 refine zst ?_;exact zrt mz
theorem yj1 {α:Type} [Inhabited α] {l:List α} {f:α→Bool} (h:∀j:Nat,j<l.length→f l[j]! =true):l.all f=true:=by
 rw [List.all_eq_true];intro x hx;obtain⟨j,hj,rfl⟩:=List.mem_iff_getElem.1 hx;have:=h j hj
 rwa [List.getElem!_eq_getElem?_getD,List.getElem?_eq_getElem hj] at this
theorem yj0 {α:Type} [Inhabited α] {l:List α} {f:α→Bool} {j:Nat} (hj:j<l.length) (h:f l[j]! =false):l.all f=false:=by
 rw [List.all_eq_false];refine⟨l[j]!,?_,by rw [h];decide⟩;rw [List.getElem!_eq_getElem?_getD,List.getElem?_eq_getElem hj];exact List.getElem_mem hj
theorem upto {P:Nat→Prop} {k:Nat} (h:∀j,j<k→P j) (hk:P k):∀j,j<k+1→P j:=fun j hj=>(Nat.lt_succ_iff_lt_or_eq.1 hj).elim (h j) fun e=>e▸hk
def proL (s:List Int) (l:List Canon):Bool:=l.all (fun c=>decide (xgi s c))
def proI (s:List Int) (d:List (List Canon)):Bool:=d.all (proL s)
theorem ykq (s:List Int) (f:Rdn.Files) (h1:f.data.length≤1000000000) (h2:∀k:Nat,k<f.data.length→f.data[k]!.length≤1000000000):Fnc Tryz.prog 43 [.sl false 1 (i64s s),filV f] (fun x obs=>x=.bool (proI s f.data)∧obs=[]):=by
 refine zcf Tryz.prog 43 fun mz=>?_;obtain⟨d,op⟩:=f;dsimp only at h1 h2⊢;refine zgo mz fun W S=>?_;refine zlk [0,10,11] (fun q:{q:Nat // q≤d.length∧∀j,j<q→proL s d[j]! =true}=>[(12,.int .i64 q.1)]) (fun _=>[⟨.box false 44,true,0,filV ⟨d,op⟩⟩]) (fun q=>d.length-q.1) (⟨0,by simp⟩) 1 ?_;intro J hJ
 rintro⟨k,hk0,hT⟩
 by_cases hlt:k<d.length
 ·have h3:=h2 k hlt
  refine zst ?_;have hJo:=hJ;refine zlk [0,10,11,12,16,17] (fun q:{q:Nat // q≤d[k]!.length∧∀j,j<q→decide (xgi s d[k]![j]!)=true}=>[(18,.int .i64 q.1)]) (fun _=>[⟨.box false 44,true,0,filV ⟨d,op⟩⟩]) (fun q=>d[k]!.length-q.1) (⟨0,by simp⟩) 1 ?_;intro J hJ
  rintro⟨j,hj0,hU⟩
  by_cases hlj:j<d[k]!.length
  ·have fp:=xo3 s d[k]![j]!
   by_cases hp:xgi s d[k]![j]!
   ·rw [decT hp] at fp
    refine zst ?_;refine zcd (fp) ?_;exact zn1 (hJ _ (⟨j+1,hlj,upto hU (decT hp)⟩) (by first|omega|(dsimp only;omega)|(simp;omega))) hlj
   ·rw [decF hp] at fp
    have hL:proL s d[k]! =false:=yj0 hlj (decF hp);have hI:proI s d=false:=yj0 hlt hL;rw [hI];refine zst ?_;refine zcd (fp) ?_;exact zrt mz
  obtain rfl:j=d[k]!.length:=by omega
  have hL:proL s d[k]! =true:=yj1 hU;refine zst ?_;exact znx 1 (hJo _ (⟨k+1,hlt,upto hT hL⟩) (by dsimp only;omega)) (by refine⟨rfl,by simp,?_,?_,?_,?_⟩<;>first|rfl|exact trivial|(simp only [go_sem];done)|(simp only [go_sem];(repeat' (refine And.intro ?_ ?_))<;>first|exact trivial|rfl))
 obtain rfl:k=d.length:=by omega
 have hI:proI s d=true:=yj1 hT;rw [hI];refine zst ?_;exact zrt mz
theorem yk3 (l:PLocks) (h:okLk l):Fnc Tryz.prog 107 [xcf false l] (fun x obs=>x=.agg [.own 0 0,.own 1 0]∧obs=[rowI l.owner,⟨.rows false 22,true,0,.arr 1 [.own 2 0,.own 3 0,.own 4 0,.own 5 0]⟩,rowI l.queue[0]!,rowI l.queue[1]!,rowI l.queue[2]!,rowI l.queue[3]!]):=by
 refine zcf Tryz.prog 107 fun mz=>?_;obtain⟨ow,qu⟩:=l;obtain⟨k1,k2,k3,k4⟩:=h;have lq:∀x∈qu,x.length≤4:=fun x hx=>qlen (k4 x hx);obtain⟨x0,x1,x2,x3,rfl⟩:=four k2;have l0:=lq x0 (by simp);have l1:=lq x1 (by simp);have l2:=lq x2 (by simp);have l3:=lq x3 (by simp);clear lq k4 k3 k2;dsimp only at k1;simp only [rowI,List.getElem!_cons_zero,List.getElem!_cons_succ];refine zgo mz fun W S=>?_;refine xb8 3 1 22 1 rfl rfl (by decide) rfl ?_;refine xa8 4 rfl ?_;refine xad 5 ?_;refine zso ?_;refine xao (fu:=fu8) xap [3,4] 2 rfl (by kernel_rfl) ?_;simp only [go_sem]
 repeat(first|refine And.intro (by omega) ?_|refine And.intro rfl ?_|refine xd1 rfl rfl ?_|refine xax ?_|refine xbc (by kernel_rfl) ?_|(simp (disch:=omega) only [xbq,Nat.min_eq_left,Nat.min_eq_right,if_pos,if_neg,xb6,xaq,xbv,xen,xeu,xet,decT,decF,beqT,beqF,bneT,bneF,Int.toNat_natCast];try simp only [go_sem])|(refine xas rfl ?_ ?_;·(simp<;>omega))|(refine xaw rfl ?_ ?_;·(simp<;>omega))|((first|refine xb0 ?_|refine xd2 rfl ?_|refine xgt [3,4] rfl ?_);simp only [go_sem]))
 refine xao (fu:=fu8) xap [3,4] 2 rfl (by kernel_rfl) ?_;simp only [go_sem]
 repeat(first|refine And.intro (by omega) ?_|refine And.intro rfl ?_|refine xd1 rfl rfl ?_|refine xax ?_|refine xbc (by kernel_rfl) ?_|(simp (disch:=omega) only [xbq,Nat.min_eq_left,Nat.min_eq_right,if_pos,if_neg,xb6,xaq,xbv,xen,xeu,xet,decT,decF,beqT,beqF,bneT,bneF,Int.toNat_natCast];try simp only [go_sem])|(refine xas rfl ?_ ?_;·(simp<;>omega))|(refine xaw rfl ?_ ?_;·(simp<;>omega))|((first|refine xb0 ?_|refine xd2 rfl ?_|refine xgt [3,4] rfl ?_);simp only [go_sem]))
 refine xao (fu:=fu8) xap [3,4] 2 rfl (by kernel_rfl) ?_;simp only [go_sem]
 repeat(first|refine And.intro (by omega) ?_|refine And.intro rfl ?_|refine xd1 rfl rfl ?_|refine xax ?_|refine xbc (by kernel_rfl) ?_|(simp (disch:=omega) only [xbq,Nat.min_eq_left,Nat.min_eq_right,if_pos,if_neg,xb6,xaq,xbv,xen,xeu,xet,decT,decF,beqT,beqF,bneT,bneF,Int.toNat_natCast];try simp only [go_sem])|(refine xas rfl ?_ ?_;·(simp<;>omega))|(refine xaw rfl ?_ ?_;·(simp<;>omega))|((first|refine xb0 ?_|refine xd2 rfl ?_|refine xgt [3,4] rfl ?_);simp only [go_sem]))
 refine xao (fu:=fu8) xap [3,4] 2 rfl (by kernel_rfl) ?_;simp only [go_sem]
 repeat(first|refine And.intro (by omega) ?_|refine And.intro rfl ?_|refine xd1 rfl rfl ?_|refine xax ?_|refine xbc (by kernel_rfl) ?_|(simp (disch:=omega) only [xbq,Nat.min_eq_left,Nat.min_eq_right,if_pos,if_neg,xb6,xaq,xbv,xen,xeu,xet,decT,decF,beqT,beqF,bneT,bneF,Int.toNat_natCast];try simp only [go_sem])|(refine xas rfl ?_ ?_;·(simp<;>omega))|(refine xaw rfl ?_ ?_;·(simp<;>omega))|((first|refine xb0 ?_|refine xd2 rfl ?_|refine xgt [3,4] rfl ?_);simp only [go_sem]))
 refine zst ?_;refine retN mz [2,4,5,7,9,11] ?_;exact zfn
theorem xz7 {w:List Int} {t:Int} (h:∀b:Nat,b<w.length→¬w[b]! =t):¬t∈w:=fun hm=>by
 obtain⟨b,hb,e⟩:=List.mem_iff_getElem.1 hm;refine h b hb ?_;rw [List.getElem!_eq_getElem?_getD,List.getElem?_eq_getElem hb];exact e
theorem yk9 (l:PLocks) (h:okLk l) (k t:Int):Fnc Tryz.prog 109 [xcf false l,.int .i64 k,.int .i64 t] (fun x obs=>x=.tup [xcf true (xeg l k t).1,.int .i64 (xeg l k t).2]∧obs=[]):=by
 refine zcf Tryz.prog 109 fun mz=>?_;have fc:=xym l h;have ho:=h.o;have hq:=h.q;unfold xeg;by_cases k0:k<0
 ·rw [if_pos (.inl k0)]
  refine zgo mz fun W S=>?_;refine zcx (fc) ?_;exact zrt mz
 by_cases k1:4≤k
 ·rw [if_pos (.inr (.inl k1))]
  refine zgo mz fun W S=>?_;refine zcx (fc) ?_;exact zrt mz
 obtain⟨K,rfl⟩:∃K:Nat,k=K:=⟨k.toNat,by omega⟩;rw [Int.toNat_natCast];by_cases k2:l.owner[K]! =t
 ·rw [if_pos (.inr (.inr k2))]
  refine zgo mz fun W S=>?_;refine zcx (fc) ?_;exact zrt mz
 rw [if_neg (by simp only [not_or];exact⟨k0,k1,k2⟩)];by_cases hE:∃w∈l.queue,t∈w
 ·rw [if_pos hE]
  refine zgo mz fun W S=>?_;refine zcx (fc) ?_;refine zlk [1,2,3,6,8,32,33] (fun q:{q:Nat // q≤l.queue.length∧∀a,a<q→¬t∈l.queue[a]!}=>[(34,.int .i64 q.1)]) (fun _=>[⟨.box false 50,true,0,xcf false l⟩,⟨.box false 50,true,0,.agg [.nilS,.nilS]⟩,rowI l.owner,rowQ l.queue,⟨.box false 50,true,0,.agg [.own 2 0,.own 3 0]⟩]) (fun q=>l.queue.length-q.1) (⟨0,by omega,fun a ha=>absurd ha (by omega)⟩) 5 ?_;intro J hJ
  rintro⟨a,ha0,hT⟩
  by_cases hla:a<l.queue.length
  ·have hw4:l.queue[a]!.length≤4:=qlen (h.qu _ (xam hla))
   refine zst ?_;have hJo:=hJ;refine zlk [1,2,3,6,8,32,33,34,38,39] (fun q:{q:Nat // q≤l.queue[a]!.length∧∀b,b<q→¬l.queue[a]![b]! =t}=>[(40,.int .i64 q.1)]) (fun _=>[⟨.box false 50,true,0,xcf false l⟩,⟨.box false 50,true,0,.agg [.nilS,.nilS]⟩,rowI l.owner,rowQ l.queue,⟨.box false 50,true,0,.agg [.own 2 0,.own 3 0]⟩]) (fun q=>l.queue[a]!.length-q.1) (⟨0,by omega,fun b hb=>absurd hb (by omega)⟩) 5 ?_;intro J hJ
   rintro⟨b,hb0,hU⟩
   by_cases hlb:b<l.queue[a]!.length
   ·by_cases hp:l.queue[a]![b]! =t
    ·refine zst ?_
     exact zrt mz
    ·refine zst ?_
     exact zn5 (hJ _ (⟨b+1,hlb,upto hU hp⟩) (by first|omega|(dsimp only;omega)|(simp;omega))) hlb
   obtain rfl:b=l.queue[a]!.length:=by omega
   have hN:¬t∈l.queue[a]!:=xz7 hU;refine zst ?_;exact znx 5 (hJo _ (⟨a+1,hla,upto hT hN⟩) (by dsimp only;omega)) (by refine⟨rfl,by simp,?_,?_,?_,?_⟩<;>first|rfl|exact trivial|(simp only [go_sem];done)|(simp only [go_sem];(repeat' (refine And.intro ?_ ?_))<;>first|exact trivial|rfl))
  obtain rfl:a=l.queue.length:=by omega
  obtain⟨w,hw1,hw2⟩:=hE;obtain⟨a,ha,e⟩:=List.mem_iff_getElem.1 hw1;refine absurd hw2 ?_;have:=hT a ha
  rwa [List.getElem!_eq_getElem?_getD,List.getElem?_eq_getElem ha,Option.getD_some,e] at this
 rw [if_neg hE];by_cases k3:l.owner[K]! =-1
 ·rw [if_pos k3]
  refine zgo mz fun W S=>?_;refine zcx (fc) ?_;refine zlk [1,2,3,6,8,32,33] (fun q:{q:Nat // q≤l.queue.length∧∀a,a<q→¬t∈l.queue[a]!}=>[(34,.int .i64 q.1)]) (fun _=>[⟨.box false 50,true,0,xcf false l⟩,⟨.box false 50,true,0,.agg [.nilS,.nilS]⟩,rowI l.owner,rowQ l.queue,⟨.box false 50,true,0,.agg [.own 2 0,.own 3 0]⟩]) (fun q=>l.queue.length-q.1) (⟨0,by omega,fun a ha=>absurd ha (by omega)⟩) 5 ?_;intro J hJ
  rintro⟨a,ha0,hT⟩
  by_cases hla:a<l.queue.length
  ·have hw4:l.queue[a]!.length≤4:=qlen (h.qu _ (xam hla))
   refine zst ?_;have hJo:=hJ;refine zlk [1,2,3,6,8,32,33,34,38,39] (fun q:{q:Nat // q≤l.queue[a]!.length∧∀b,b<q→¬l.queue[a]![b]! =t}=>[(40,.int .i64 q.1)]) (fun _=>[⟨.box false 50,true,0,xcf false l⟩,⟨.box false 50,true,0,.agg [.nilS,.nilS]⟩,rowI l.owner,rowQ l.queue,⟨.box false 50,true,0,.agg [.own 2 0,.own 3 0]⟩]) (fun q=>l.queue[a]!.length-q.1) (⟨0,by omega,fun b hb=>absurd hb (by omega)⟩) 5 ?_;intro J hJ
   rintro⟨b,hb0,hU⟩
   by_cases hlb:b<l.queue[a]!.length
   ·by_cases hp:l.queue[a]![b]! =t
    ·exact absurd ⟨_,xam hla,hp▸xam hlb⟩ hE
    ·refine zst ?_
     exact zn5 (hJ _ (⟨b+1,hlb,upto hU hp⟩) (by first|omega|(dsimp only;omega)|(simp;omega))) hlb
   obtain rfl:b=l.queue[a]!.length:=by omega
   have hN:¬t∈l.queue[a]!:=xz7 hU;refine zst ?_;exact znx 5 (hJo _ (⟨a+1,hla,upto hT hN⟩) (by dsimp only;omega)) (by refine⟨rfl,by simp,?_,?_,?_,?_⟩<;>first|rfl|exact trivial|(simp only [go_sem];done)|(simp only [go_sem];(repeat' (refine And.intro ?_ ?_))<;>first|exact trivial|rfl))
  obtain rfl:a=l.queue.length:=by omega
  refine zst ?_;refine ret mz [] ?_;(first|(simp only [go_sem];done)|(simp only [go_sem];((try dsimp only);(repeat' (refine And.intro ?_ ?_))<;>first|with_reducible rfl|(simp only [go_sem];done)|(simp only [go_sem];rfl)|(simp only [go_sem,List.map_set];done)|(simp only [List.map_set];(try simp only [go_sem]);first|done|rfl)|(simp only [go_sem];simp [List.map_set];done)|(simp [List.map_set];done)|rfl)))
 rw [if_neg k3];clear fc;have fc:=yk3 l h;refine zgo mz fun W S=>?_;refine zcx (fc) ?_;refine zlk [1,2,3,6,8,32,33] (fun q:{q:Nat // q≤l.queue.length∧∀a,a<q→¬t∈l.queue[a]!}=>[(34,.int .i64 q.1)]) (fun _=>[⟨.box false 50,true,0,xcf false l⟩,⟨.box false 50,true,0,.agg [.nilS,.nilS]⟩,rowI l.owner,⟨.rows false 22,true,0,.arr 1 [.own 4 0,.own 5 0,.own 6 0,.own 7 0]⟩,rowI l.queue[0]!,rowI l.queue[1]!,rowI l.queue[2]!,rowI l.queue[3]!,⟨.box false 50,true,0,.agg [.own 2 0,.own 3 0]⟩]) (fun q=>l.queue.length-q.1) (⟨0,by omega,fun a ha=>absurd ha (by omega)⟩) 9 ?_;intro J hJ
 rintro⟨a,ha0,hT⟩
 by_cases hla:a<l.queue.length
 ·have hw4:l.queue[a]!.length≤4:=qlen (h.qu _ (xam hla))
  refine zst ?_;have hJo:=hJ;refine zlk [1,2,3,6,8,32,33,34,38,39] (fun q:{q:Nat // q≤l.queue[a]!.length∧∀b,b<q→¬l.queue[a]![b]! =t}=>[(40,.int .i64 q.1)]) (fun _=>[⟨.box false 50,true,0,xcf false l⟩,⟨.box false 50,true,0,.agg [.nilS,.nilS]⟩,rowI l.owner,⟨.rows false 22,true,0,.arr 1 [.own 4 0,.own 5 0,.own 6 0,.own 7 0]⟩,rowI l.queue[0]!,rowI l.queue[1]!,rowI l.queue[2]!,rowI l.queue[3]!,⟨.box false 50,true,0,.agg [.own 2 0,.own 3 0]⟩]) (fun q=>l.queue[a]!.length-q.1) (⟨0,by omega,fun b hb=>absurd hb (by omega)⟩) 9 ?_;intro J hJ
  rintro⟨b,hb0,hU⟩
  by_cases hlb:b<l.queue[a]!.length
  ·by_cases hp:l.queue[a]![b]! =t
   ·exact absurd ⟨_,xam hla,hp▸xam hlb⟩ hE
   ·refine zst ?_
    refine xbw 9 (hJ _ (⟨b+1,hlb,upto hU hp⟩) (by first|omega|(dsimp only;omega)|(simp;omega))) rfl (by simp) ?_ (by first|rfl|(simp only [go_sem];done)) (by first|rfl|(simp only [go_sem];done)|(simp only [hlb];(try simp only [go_sem]);first|done|rfl)) ?_
    ·exact zna hlb
    ·exact znb hlb
  obtain rfl:b=l.queue[a]!.length:=by omega
  have hN:¬t∈l.queue[a]!:=xz7 hU;refine zst ?_;exact znx 9 (hJo _ (⟨a+1,hla,upto hT hN⟩) (by dsimp only;omega)) (by refine⟨rfl,by simp,?_,?_,?_,?_⟩<;>first|rfl|exact trivial|(simp only [go_sem];done)|(simp only [go_sem];(repeat' (refine And.intro ?_ ?_))<;>first|exact trivial|rfl))
 obtain rfl:a=l.queue.length:=by omega
 have hK:K=0∨K=1∨K=2∨K=3:=by omega
 obtain⟨ow,qu⟩:=l;obtain⟨w0,w1,w2,w3,rfl⟩:=four ho;obtain⟨q0,q1,q2,q3,rfl⟩:=four hq;have h0:q0.length≤4:=qlen (h.qu _ (by simp));have h1:q1.length≤4:=qlen (h.qu _ (by simp));have h2:q2.length≤4:=qlen (h.qu _ (by simp));have h3:q3.length≤4:=qlen (h.qu _ (by simp));simp only [rowI,List.getElem!_cons_zero,List.getElem!_cons_succ];rcases hK with rfl|rfl|rfl|rfl
 all_goals
  simp only [List.getElem!_cons_zero,List.getElem!_cons_succ,List.set_cons_zero,List.set_cons_succ] at k3⊢;refine zst ?_;refine xj8 3 0 4 rfl rfl rfl ?_;refine zls ?_;refine xj8 3 1 5 rfl rfl rfl ?_;refine zls ?_;refine xj8 3 2 6 rfl rfl rfl ?_;refine zls ?_;refine xj8 3 3 7 rfl rfl rfl ?_;refine zls ?_;refine xa2 3 rfl (by rfl) ?_;refine zls ?_;exact zrt mz
theorem xar:xcd Tryz.prog 88=some (174,Qr ([Qw 3 (.box 96 (.t 1)),Qw 4 (.alloc 100 (.agg [.agg [.int .u8 0,.int .u16 0,.int .i64 0,.int .i64 0],.nilS,.int .i64 0,.bool false]))])
 (.seq (Qr ([Qf 20 5 5 3,Ql 21 1 20])
 (.block 0 (.seq (Qr ([Qk 23 .eql 21 0,Qm 22 23])
 (.cond (.t 22) (.skip) (Qr ([Qk 24 .eql 21 12,Qm 22 24])
 (.cond (.t 22) (.skip) (.reg [Qk 25 .eql 21 15,Qm 22 25])))))
 (.cond (.t 22) (Qr ([Qq 26 108 [(Qi 0),(.c (.bool true))],Qs 7 4 26])
 (.ret)) (Qr ([Qk 28 .eql 21 8,Qm 27 28])
 (.cond (.t 27) (.seq (.dreg [Qm 30 0,Qp 31 (.nilc (.t 30)),Qf 32 14 3 31,QL 33 2 32,Qf 34 6 6 3,Ql 35 1 34,Qp 36 (.idxA 4 (.t 35) (Qi 0)),Qf 37 1 1 36,Ql 38 1 37,Qp 39 (.conv .i64 (.t 38)),Qf 40 0 0 3,Ql 41 1 40,Qq 42 109 [(.t 33),(.t 39),(.t 41)],Qm 29 42,Qe 43 29 0,Qe 44 29 1,Qw 5 (.alloc 50 (.agg [.nilS,.nilS])),Qs 2 5 43,Qm 6 44] [[],[0],[0,1],[0,1,2],[],[4],[4,5],[4,5,6],[4,5,6,7],[4,5,6,7,8],[],[10],[0,1,2,3,4,5,6,7,8,9,10,11],[0,1,2,3,4,5,6,7,8,9,10,11,12],[0,1,2,3,4,5,6,7,8,9,10,11,12,13],[0,1,2,3,4,5,6,7,8,9,10,11,12,13],[],[0,1,2,3,4,5,6,7,8,9,10,11,12,13,14,16],[0,1,2,3,4,5,6,7,8,9,10,11,12,13,14,15,16,17]])
 (Qr ([Qm 45 0,QL 46 2 5,Qp 47 (.nilc (.t 45)),Qf 48 14 3 47,Qs 2 48 46])
 (Qr ([Qm 49 6,Qk 50 .neq 49 2,Qq 51 108 [(Qi 0),(.t 50)],Qw 7 (.alloc 100 (.agg [.agg [.int .u8 0,.int .u16 0,.int .i64 0,.int .i64 0],.nilS,.int .i64 0,.bool false])),Qs 7 7 51])
 (Qr ([Qm 52 6,Qk 53 .eql 52 1,Qf 54 6 3 7,Qs 1 54 53])
 (Qr ([QL 55 7 7,Qs 7 4 55])
 (.ret)))))) (Qr ([Qk 57 .eql 21 9,Qm 56 57])
 (.cond (.t 56) (.seq (.dreg [Qm 59 0,Qp 60 (.nilc (.t 59)),Qf 61 14 3 60,QL 62 2 61,Qf 63 6 6 3,Ql 64 1 63,Qp 65 (.idxA 4 (.t 64) (Qi 0)),Qf 66 1 1 65,Ql 67 1 66,Qp 68 (.conv .i64 (.t 67)),Qf 69 0 0 3,Ql 70 1 69,Qq 71 87 [(.t 62),(.t 68),(.t 70)],Qm 58 71,Qe 72 58 0,Qe 73 58 1,Qe 74 58 2,Qw 8 (.alloc 50 (.agg [.nilS,.nilS])),Qs 2 8 72,Qm 9 73,Qm 10 74] [[],[0],[0,1],[0,1,2],[],[4],[4,5],[4,5,6],[4,5,6,7],[4,5,6,7,8],[],[10],[0,1,2,3,4,5,6,7,8,9,10,11],[0,1,2,3,4,5,6,7,8,9,10,11,12],[0,1,2,3,4,5,6,7,8,9,10,11,12,13],[0,1,2,3,4,5,6,7,8,9,10,11,12,13],[0,1,2,3,4,5,6,7,8,9,10,11,12,13],[],[0,1,2,3,4,5,6,7,8,9,10,11,12,13,14,17],[0,1,2,3,4,5,6,7,8,9,10,11,12,13,14,15,17,18],[0,1,2,3,4,5,6,7,8,9,10,11,12,13,14,15,16,17,18,19]])
 (Qr ([Qm 75 0,QL 76 2 8,Qp 77 (.nilc (.t 75)),Qf 78 14 3 77,Qs 2 78 76])
 (Qr ([Qm 79 10,Qq 80 108 [(Qi 0),(.t 79)],Qs 7 4 80])
 (.ret)))) (Qr ([Qk 82 .eql 21 10,Qm 81 82])
 (.cond (.t 81) (.seq (Qr ([Qm 83 0,Qp 84 (.nilc (.t 83)),Qf 85 3 1 84,Qf 86 4 2 85,Ql 87 1 86,Qn 88 87,Qp 89 (.mov (Qi 0))])
 (.block 1 (.loop (Qr ([Qb 90 .lss 89 88])
 (.seq (.cond (.t 90) (.skip) (.exit 1))
 (.seq (.block 2 (Qr ([Qm 91 89,Qx 92 8 87 89,QL 93 8 92,Qw 12 (.alloc 148 (.agg [.int .i64 0,.nilS,.int .i64 0,.int .i64 0,.int .i64 0,.int .i64 0,.int .i64 0,.int .u16 0])),Qm 11 91,Qs 8 12 93])
 (Qr ([Qf 94 0 0 12,Ql 95 1 94,Qk 96 .eql 95 0])
 (.cond (.t 96) (Qr ([Qm 97 11,Qq 98 108 [(.t 97),(.c (.bool true))],Qw 13 (.alloc 100 (.agg [.agg [.int .u8 0,.int .u16 0,.int .i64 0,.int .i64 0],.nilS,.int .i64 0,.bool false])),Qs 7 13 98])
 (Qr ([Qm 99 11,Qf 100 5 2 13,Qs 1 100 99])
 (Qr ([QL 101 7 13,Qs 7 4 101])
 (.ret)))) (.skip)))))
 (.reg [Qk 102 .add 89 1,Qm 89 102])))))))
 (Qr ([Qq 103 108 [(Qi 0),(.c (.bool false))],Qs 7 4 103])
 (.ret))) (Qr ([Qk 105 .eql 21 11,Qm 104 105])
 (.cond (.t 104) (Qr ([Qf 106 6 6 3,Ql 107 1 106,Qp 108 (.idxA 4 (.t 107) (Qi 0)),Qf 109 1 1 108,Ql 110 1 109,Qp 111 (.conv .i64 (.t 110)),Qm 14 111])
 (.seq (Qr ([Qm 112 14,Qf 113 0 0 3,Ql 114 1 113,Qb 115 .eql 112 114,Qm 116 115,Q0 117 116 (.mov (.t 14)),Q0 118 116 (.bin 0 .geq (.t 117) (Qi 4)),Qt 119 116 118,Qm 120 119,Q0 121 120 (.mov (.t 0)),Q0 122 120 (.nilc (.t 121)),Q0 123 120 (.fieldA 3 1 (.t 122)),Q0 124 120 (.fieldA 4 2 (.t 123)),Q0 125 120 (.load false 1 (.t 124)),Q0 126 120 (.mov (.t 14)),Q0 127 120 (.idxA 8 (.t 125) (.t 126)),Q0 128 120 (.fieldA 0 0 (.t 127)),Q0 129 120 (.load false 1 (.t 128)),Q0 130 120 (.bin 0 .eql (.t 129) (Qi 0)),Qt 131 120 130])
 (.cond (.t 131) (Qr ([Qq 132 108 [(Qi 0),(.c (.bool false))],Qs 7 4 132])
 (.ret)) (.skip)))
 (.seq (Qr ([Qm 133 0,Qp 134 (.nilc (.t 133)),Qf 135 3 1 134,Qf 136 4 2 135,Ql 137 1 136,Qm 138 14,Qx 139 8 137 138,QL 140 8 139,Qw 15 (.alloc 148 (.agg [.int .i64 0,.nilS,.int .i64 0,.int .i64 0,.int .i64 0,.int .i64 0,.int .i64 0,.int .u16 0])),Qs 8 15 140])
 (Qr ([Qf 141 0 0 15,Ql 142 1 141,Qk 143 .eql 142 4])
 (.cond (.t 143) (Qr ([Qf 144 7 7 15,Ql 145 1 144,Qp 146 (.conv .i64 (.t 145)),Qq 147 108 [(.t 146),(.c (.bool true))],Qs 7 4 147])
 (.ret)) (.skip))))
 (.seq (.dreg [Qm 148 0,Qp 149 (.nilc (.t 148)),Qf 150 17 5 149,Ql 151 1 150,Qf 152 0 0 3,Ql 153 1 152,Qm 154 14,Qx 155 1 151 153,Qs 1 155 154] [[],[0],[0,1],[0,1,2],[],[4],[],[0,1,2,3,4,5,6],[0,1,2,3,4,5,6,7]])
 (Qr ([Qq 156 108 [(Qi 0),(.c (.bool true))],Qw 16 (.alloc 100 (.agg [.agg [.int .u8 0,.int .u16 0,.int .i64 0,.int .i64 0],.nilS,.int .i64 0,.bool false])),Qs 7 16 156])
 (Qr ([Qf 157 6 3 16,⟨none,none,(.m (.store 1 (.t 157) (.c (.bool true))))⟩])
 (Qr ([QL 158 7 16,Qs 7 4 158])
 (.ret)))))))) (.skip)))))))))))))
 (.seq (.dreg [Qm 160 0,Qp 161 (.nilc (.t 160)),Qf 162 8 2 161,QL 163 6 162,QL 164 8 3,Qq 165 110 [(.t 163),(.t 164)],Qm 159 165,Qe 166 159 0,Qe 167 159 1,Qe 168 159 2,Qw 17 (.alloc 47 (.agg [.nilS,.nilS,.nilS,.agg [.nilS,.nilS],.nilS])),Qw 18 (.alloc 100 (.agg [.agg [.int .u8 0,.int .u16 0,.int .i64 0,.int .i64 0],.nilS,.int .i64 0,.bool false])),Qs 6 17 166,Qs 7 18 167,Qm 19 168] [[],[0],[0,1],[0,1,2],[],[0,1,2,3,4],[0,1,2,3,4,5],[0,1,2,3,4,5,6],[0,1,2,3,4,5,6],[0,1,2,3,4,5,6],[],[],[0,1,2,3,4,5,6,7,10,11],[0,1,2,3,4,5,6,7,8,10,11,12],[0,1,2,3,4,5,6,7,8,9,10,11,12,13]])
 (Qr ([Qm 169 0,QL 170 6 17,Qp 171 (.nilc (.t 169)),Qf 172 8 2 171,Qs 6 172 170])
 (Qr ([QL 173 7 18,Qs 7 4 173])
 (.ret))))),[.load true 7 (.t 4)]):=by kernel_rfl
abbrev entV (e:PEntry):V:=.agg [.int .i64 e.kind,.int .i64 e.thread,.int .i64 e.n,reqV e.req,resV e.res]
instance :Lo entV entV:=⟨fun _=>rfl,fun o=>by simp only [entV,reqV,resV,V.low,V.lows,xd4]⟩
abbrev obR (r:PRn):List Ob:=[⟨.box true 53,true,0,.agg [xbn false r.prog,xd8 false r.mach,xct r.out,xcf false r.locks,.own 1 0,.own 2 0]⟩,⟨.rows true 102,true,0,.arr 18 (r.record.map entV)⟩,⟨.rows true 3,true,0,.arr 1 (i64s r.joins)⟩]
theorem yg1 {P:Program} {cx:Cx} {N:Nat} {Q:Exit→Act→World→Prop} {k:List It} {n:Nat} {t:List (Nat×V)} {ob:List Ob} (i:Nat) (h:(xae t i).wf→Ev P cx N Q k ⟨n,t,ob⟩):Ev P cx N Q k ⟨n,t,ob⟩:=⟨fun hn E a w R=>(h (RdT.wf (R.tm i))).h hn E a w R⟩
theorem yei {P:Program} {cx:Cx} {N:Nat} {Q:Exit→Act→World→Prop} {k:List It} {lr:List RO} {n:Nat} {t:List (Nat×V)} {ob:List Ob} (i:Nat) (h:(xae t i).wf→EvR P cx N Q k lr ⟨n,t,ob⟩):EvR P cx N Q k lr ⟨n,t,ob⟩:=⟨fun hn E a w R=>(h (RdT.wf (R.tm i))).h hn E a w R⟩
theorem xkb {n:Int} (h:inK .u16 n):0≤n∧n≤65535:=by
 exact⟨h.1,h.2⟩
theorem xi1 {c:Canon} (h:(xaf c).wf):rngC c:=by
 simp only [xaf,V.wf,V.wfs] at h;exact xkb h.2.1
theorem ycz {x:Rdn.Result} (h:(resV x).wf):rngR x:=by
 simp only [resV,V.wf,V.wfs,xdw] at h;exact⟨xi1 h.1,fun c hc=>xi1 (h.2.1.1 c hc)⟩
theorem ycy {q:Request} (h:(reqV q).wf):∀c∈q.args,rngC c:=by
 simp only [reqV,V.wf,V.wfs,xdw] at h;exact fun c hc=>xi1 (h.2.2.2.2.2.2.1.1 c hc)
theorem ydx (l:PLocks) (k t:Int):(xeg l k t).2=0∨(xeg l k t).2=1∨(xeg l k t).2=2:=by
 unfold xeg;refine xa6 (P:=fun z:PLocks×Int=>z.2=0∨z.2=1∨z.2=2) (fun _=> .inr (.inr rfl)) fun _=>?_;by_cases e:∃w∈l.queue,t∈w
 ·rw [if_pos e];exact .inr (.inr rfl)
 ·rw [if_neg e]
  exact xa6 (P:=fun z:PLocks×Int=>z.2=0∨z.2=1∨z.2=2) (fun _=> .inl rfl) fun _=> .inr (.inl rfl)
theorem yhd (C:Int) (r:PRn) (h:okRun C r) (q:Request) (k:okReq q):FncI Tryz.prog 88 (obR r) [.ptr 0 0 [] 0,reqV q] (fun x ob=>x=resV (xdg r q).2∧ob=obR (xdg r q).1∧rngR (xdg r q).2):=by
 have hal:=xoc k;have hth:=k.F.thread;have hc:=k.F.call;have hra:=k.ra;have hn:=h.mach.n;have hjl:=h.jl;by_cases h0:q.call=0∨q.call=12∨q.call=15
 ·have fv:=xan 0 true
  rw [show xdg r q=(r,valS 0 true) from if_pos h0];have hR:=(xb4 0 true).2;rcases h0 with h0|h0|h0
  all_goals
   refine zqi xar fun W lent S=>?_;refine zst ?_;refine zcd (fv) ?_;refine xag 3 xar ?_;exact zfh hR
 by_cases h8:q.call=8
 ·have ha1:q.args.length=1:=by rw [hal,h8];rfl
  obtain⟨w0,w1⟩:=hra _ (xam (l:=q.args) (k:=0) (by omega));have ft:=yk9 r.locks h.lk q.args[0]!.val q.thread;have hw:=ydx r.locks q.args[0]!.val q.thread;rw [show xdg r q=({r with locks:=(xeg r.locks q.args[0]!.val q.thread).1},{valS 0 (decide ((xeg r.locks q.args[0]!.val q.thread).2≠2)) with wait:=decide ((xeg r.locks q.args[0]!.val q.thread).2=1)}) by unfold xdg;rw [if_neg h0,if_pos h8]];generalize xeg r.locks q.args[0]!.val q.thread=Z at ft hw⊢;obtain⟨l2,w⟩:=Z;dsimp only at ft hw⊢;rcases hw with rfl|rfl|rfl
  ·have fv:=xan 0 true
   have hR:rngR {valS 0 true with wait:=false}:=⟨(xb4 0 true).2.v,(xb4 0 true).2.d⟩;rw [show decide ((0:Int)≠2)=true from rfl,show decide ((0:Int)=1)=false from rfl];refine zqi xar fun W lent S=>?_;refine zst ?_;refine zcd (ft) ?_;refine zcd (fv) ?_;refine xa7 true [0,1,2,3,4] [4] (by simp only [go_sem]) (by simp only [go_sem]) ?_;simp only [go_sem];refine xag 3 xar ?_;exact zfh hR
  ·have fv:=xan 0 true
   have hR:rngR {valS 0 true with wait:=true}:=⟨(xb4 0 true).2.v,(xb4 0 true).2.d⟩;rw [show decide ((1:Int)≠2)=true from rfl,show decide ((1:Int)=1)=true from rfl];refine zqi xar fun W lent S=>?_;refine zst ?_;refine zcd (ft) ?_;refine zcd (fv) ?_;refine xa7 true [0,1,2,3,4] [4] (by simp only [go_sem]) (by simp only [go_sem]) ?_;simp only [go_sem];refine xag 3 xar ?_;exact zfh hR
  ·have fv:=xan 0 false
   have hR:rngR {valS 0 false with wait:=false}:=⟨(xb4 0 false).2.v,(xb4 0 false).2.d⟩;rw [show decide ((2:Int)≠2)=false from rfl,show decide ((2:Int)=1)=false from rfl];refine zqi xar fun W lent S=>?_;refine zst ?_;refine zcd (ft) ?_;refine zcd (fv) ?_;refine xa7 true [0,1,2,3,4] [4] (by simp only [go_sem]) (by simp only [go_sem]) ?_;simp only [go_sem];refine xag 3 xar ?_;exact zfh hR
 by_cases h9:q.call=9
 ·have ha1:q.args.length=1:=by rw [hal,h9];rfl
  obtain⟨w0,w1⟩:=hra _ (xam (l:=q.args) (k:=0) (by omega));have ft:=xyr r.locks h.lk q.args[0]!.val q.thread;rw [show xdg r q=({r with locks:=(xdi r.locks q.args[0]!.val q.thread).1},valS 0 (xdi r.locks q.args[0]!.val q.thread).2.2) by unfold xdg;rw [if_neg h0,if_neg h8,if_pos h9]];generalize xdi r.locks q.args[0]!.val q.thread=Z at ft⊢;obtain⟨l2,w,b⟩:=Z;dsimp only at ft⊢;have fv:=xan 0 b;have hR:=(xb4 0 b).2;refine zqi xar fun W lent S=>?_;refine zst ?_;refine zcd (ft) ?_;refine zcd (fv) ?_;refine xa7 true [0,1,2,3,4] [4] (by simp only [go_sem]) (by simp only [go_sem]) ?_;simp only [go_sem];refine xag 3 xar ?_;exact zfh hR
 by_cases h10:q.call=10
 ·rw [show xdg r q=(r,if 0≤xmj r.mach.thr then {valS (xmj r.mach.thr) true with spawn:=xmj r.mach.thr} else valS 0 false) by unfold xdg;rw [if_neg h0,if_neg h8,if_neg h9,if_pos h10]]
  unfold xmj;by_cases z0:r.mach.thr[0]!.state=0
  ·rw [if_pos z0,if_pos (by decide)]
   have fv:=xan 0 true;have hR:rngR {valS 0 true with spawn:=0}:=⟨(xb4 0 true).2.v,(xb4 0 true).2.d⟩;refine zqi xar fun W lent S=>?_;refine zst ?_;refine xad 5 ?_;refine zst ?_;refine zcd (fv) ?_;refine xag 3 xar ?_;exact zfh hR
  rw [if_neg z0];by_cases z1:r.mach.thr[1]!.state=0
  ·rw [if_pos z1,if_pos (by decide)]
   have fv:=xan 1 true;have hR:rngR {valS 1 true with spawn:=1}:=⟨(xb4 1 true).2.v,(xb4 1 true).2.d⟩;refine zqi xar fun W lent S=>?_;refine zst ?_;refine xad 5 ?_;refine zst ?_;refine zcd (fv) ?_;refine xag 3 xar ?_;exact zfh hR
  rw [if_neg z1];by_cases z2:r.mach.thr[2]!.state=0
  ·rw [if_pos z2,if_pos (by decide)]
   have fv:=xan 2 true;have hR:rngR {valS 2 true with spawn:=2}:=⟨(xb4 2 true).2.v,(xb4 2 true).2.d⟩;refine zqi xar fun W lent S=>?_;refine zst ?_;refine xad 5 ?_;refine zst ?_;refine zcd (fv) ?_;refine xag 3 xar ?_;exact zfh hR
  rw [if_neg z2];by_cases z3:r.mach.thr[3]!.state=0
  ·rw [if_pos z3,if_pos (by decide)]
   have fv:=xan 3 true;have hR:rngR {valS 3 true with spawn:=3}:=⟨(xb4 3 true).2.v,(xb4 3 true).2.d⟩;refine zqi xar fun W lent S=>?_;refine zst ?_;refine xad 5 ?_;refine zst ?_;refine zcd (fv) ?_;refine xag 3 xar ?_;exact zfh hR
  rw [if_neg z3];rw [if_neg (by decide)];have fv:=xan 0 false;have hR:=(xb4 0 false).2;refine zqi xar fun W lent S=>?_;refine zst ?_;refine xad 5 ?_;refine zst ?_;refine zcd (fv) ?_;refine xag 3 xar ?_;exact zfh hR
 by_cases h11:q.call=11
 ·have ha1:q.args.length=1:=by rw [hal,h11];rfl
  obtain⟨w0,w1⟩:=hra _ (xam (l:=q.args) (k:=0) (by omega));have e11:xdg r q=if q.args[0]!.val=q.thread∨4≤q.args[0]!.val∨(xqu r q).state=0 then(r,valS 0 false) else if(xqu r q).state=4 then(r,valS (xqu r q).code true) else({r with joins:=r.joins.set q.thread.toNat q.args[0]!.val},{valS 0 true with wait:=true}):=by unfold xdg;rw [if_neg h0,if_neg h8,if_neg h9,if_neg h10,if_pos h11]
  rw [e11];clear e11;have ff:=xan 0 false;have hF:=(xb4 0 false).2;by_cases a0:q.args[0]!.val=q.thread
  ·rw [if_pos (.inl a0)]
   refine zqi xar fun W lent S=>?_;refine zst ?_;refine zcd (ff) ?_;refine xag 3 xar ?_;exact zfh hF
  by_cases a1:4≤q.args[0]!.val
  ·rw [if_pos (.inr (.inl a1))]
   refine zqi xar fun W lent S=>?_;refine zst ?_;refine zcd (ff) ?_;refine xag 3 xar ?_;exact zfh hF
  by_cases a2:r.mach.thr[q.args[0]!.val.toNat]!.state=0
  ·rw [if_pos (.inr (.inr a2))]
   refine zqi xar fun W lent S=>?_;refine zst ?_;refine zcd (ff) ?_;refine xag 3 xar ?_;exact zfh hF
  rw [if_neg (fun e=>e.elim a0 fun e=>e.elim a1 a2)];unfold xqu;by_cases a3:r.mach.thr[q.args[0]!.val.toNat]!.state=4
  ·rw [if_pos a3]
   have fv:=xan r.mach.thr[q.args[0]!.val.toNat]!.code true;have hR:=(xb4 r.mach.thr[q.args[0]!.val.toNat]!.code true).2;refine zqi xar fun W lent S=>?_;refine zst ?_;refine yei 145 fun hu=>?_;have hu:=xkb (by simpa only [xae,V.wf,if_true,if_false,Nat.reduceEqDiff] using hu);refine zst ?_;refine zcd (fv) ?_;refine xag 3 xar ?_;exact zfh hR
  rw [if_neg a3];have fv:=xan 0 true;have hR:rngR {valS 0 true with wait:=true}:=⟨(xb4 0 true).2.v,(xb4 0 true).2.d⟩;refine zqi xar fun W lent S=>?_;refine zst ?_;refine zcd (fv) ?_;refine xag 3 xar ?_;(first|(simp only [go_sem];done)|(simp only [go_sem];((try dsimp only);(repeat' (refine And.intro ?_ ?_))<;>first|with_reducible rfl|(simp only [go_sem];done)|(simp only [go_sem];rfl)|(simp only [go_sem,hR,List.map_set];done)|(simp only [hR,List.map_set];(try simp only [go_sem]);first|done|rfl)|(simp only [go_sem];simp [hR,List.map_set];done)|(simp [hR,List.map_set];done)|rfl)))
 have e12:xdg r q=({r with out:=(sDo r.out q).1},(sDo r.out q).2.1):=by unfold xdg;rw [if_neg h0,if_neg h8,if_neg h9,if_neg h10,if_neg h11]
 rw [e12];clear e12;have fd:=yku r.out q (by have:=xfr q.call;omega);generalize sDo r.out q=Z at fd⊢;obtain⟨o2,x,e⟩:=Z;dsimp only at fd⊢;refine zqi xar fun W lent S=>?_;refine zst ?_;refine zcd (fd) ?_;refine yg1 173 fun hR=>?_;have hR:=ycz (by simpa only [xae,if_true,if_false,Nat.reduceEqDiff] using hR);refine xa7 true [0,1,2,3,4] [4] (by simp only [go_sem]) (by simp only [go_sem]) ?_;simp only [go_sem];refine xag 3 xar ?_;exact zfh hR
end Go.Proofs.YtbgpfigkcpmnfaaGreat
