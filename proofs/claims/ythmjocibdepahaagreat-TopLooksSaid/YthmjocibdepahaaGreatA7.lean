import Derived.Test.YthmjocibdepahaaGreatA6
set_option linter.unusedSimpArgs false
set_option linter.unusedVariables false
set_option maxHeartbeats 64000000
set_option maxRecDepth 100000
namespace Rdn.Dp
open Go Go.RowKit Rdn
theorem κ {P:Prop} (h:P:=by kernel_rfl):P:=h
theorem φ {P:Prop} (h:P:=by first|rfl|(simp only [go_sem];done)):P:=h
theorem ψ {P:Prop} (h:P:=by first|omega|(dsimp only;omega)|(simp;omega)):P:=h
theorem τ {P:Prop} (h:P:=by simp only [go_sem];rfl):P:=h
theorem ζ {P:Prop} (h:P:=by simp only [go_sem];omega):P:=h
theorem χ {P:Prop} (h:P:=by simp only [go_sem]):P:=h
theorem aZ {A0 Q:Prop} (a0:A0) (h:Zb A0→Q:=by
 intro z0;refine aI z0.h fun W S=>?_;exact aU z0.h):Q:=h ⟨a0⟩
theorem eY {A0 A1 Q:Prop} (a0:A0) (a1:A1) (h:Zb A0→Zb A1→Q:=by
 intro z0 z1;refine aI z0.h fun W S=>?_;refine aF z1.h ?_;exact aU z0.h):Q:=h ⟨a0⟩ ⟨a1⟩
theorem iR {A0 A1 Q:Prop} {p:World→(Nat→Prop)→Prop} (a0:A0) (a1:A1) (k:∀W S,p W S) (h:Zb A0→Zb A1→Zb (∀W S,p W S)→Q:=by
 intro z0 z1 zk;refine aI z0.h fun W S=>?_;refine aF z1.h ?_;exact zk.h W S):Q:=h ⟨a0⟩ ⟨a1⟩ ⟨k⟩
theorem qV {A0 A1 Q:Prop} (a0:A0) (a1:A1) (h:Zb A0→Zb A1→Q:=by
 intro z0 z1;refine aF z0.h ?_;exact aU z1.h):Q:=h ⟨a0⟩ ⟨a1⟩
theorem zG2 {A0 A1 A2 Q:Prop} (a0:A0) (a1:A1) (a2:A2) (h:Zb A0→Zb A1→Zb A2→Q:=by
 intro z0 z1 z2;refine aI z0.h fun W S=>?_;refine aF z1.h ?_;refine aF z2.h ?_;exact aU z0.h):Q:=h ⟨a0⟩ ⟨a1⟩ ⟨a2⟩
theorem qK {A0 A1 A2 Q:Prop} {p:World→(Nat→Prop)→Prop} (a0:A0) (a1:A1) (a2:A2) (k:∀W S,p W S) (h:Zb A0→Zb A1→Zb A2→Zb (∀W S,p W S)→Q:=by
 intro z0 z1 z2 zk;refine aI z0.h fun W S=>?_;refine aF z1.h ?_;refine aF z2.h ?_;exact zk.h W S):Q:=h ⟨a0⟩ ⟨a1⟩ ⟨a2⟩ ⟨k⟩
theorem zK2 {A0 A1 A2 Q:Prop} (a0:A0) (a1:A1) (a2:A2) (h:Zb A0→Zb A1→Zb A2→Q:=by
 intro z0 z1 z2;refine aF z0.h ?_;refine aF z1.h ?_;exact aU z2.h):Q:=h ⟨a0⟩ ⟨a1⟩ ⟨a2⟩
theorem jC {A0 A1 P Q:Prop} (a0:A0) (a1:A1) (k:P) (h:Zb A0→Zb A1→Zb P→Q:=by
 intro z0 z1 zk;refine aF z0.h ?_;refine aF z1.h ?_;exact zk.h):Q:=h ⟨a0⟩ ⟨a1⟩ ⟨k⟩
theorem zG3 {A0 A1 A2 A3 Q:Prop} (a0:A0) (a1:A1) (a2:A2) (a3:A3) (h:Zb A0→Zb A1→Zb A2→Zb A3→Q:=by
 intro z0 z1 z2 z3;refine aI z0.h fun W S=>?_;refine aF z1.h ?_;refine aF z2.h ?_;refine aF z3.h ?_;exact aU z0.h):Q:=h ⟨a0⟩ ⟨a1⟩ ⟨a2⟩ ⟨a3⟩
theorem zH3 {A0 A1 A2 A3 Q:Prop} {p:World→(Nat→Prop)→Prop} (a0:A0) (a1:A1) (a2:A2) (a3:A3) (k:∀W S,p W S) (h:Zb A0→Zb A1→Zb A2→Zb A3→Zb (∀W S,p W S)→Q:=by
 intro z0 z1 z2 z3 zk;refine aI z0.h fun W S=>?_;refine aF z1.h ?_;refine aF z2.h ?_;refine aF z3.h ?_;exact zk.h W S):Q:=h ⟨a0⟩ ⟨a1⟩ ⟨a2⟩ ⟨a3⟩ ⟨k⟩
theorem zK3 {A0 A1 A2 A3 Q:Prop} (a0:A0) (a1:A1) (a2:A2) (a3:A3) (h:Zb A0→Zb A1→Zb A2→Zb A3→Q:=by
 intro z0 z1 z2 z3;refine aF z0.h ?_;refine aF z1.h ?_;refine aF z2.h ?_;exact aU z3.h):Q:=h ⟨a0⟩ ⟨a1⟩ ⟨a2⟩ ⟨a3⟩
theorem wU {A0 A1 A2 P Q:Prop} (a0:A0) (a1:A1) (a2:A2) (k:P) (h:Zb A0→Zb A1→Zb A2→Zb P→Q:=by
 intro z0 z1 z2 zk;refine aF z0.h ?_;refine aF z1.h ?_;refine aF z2.h ?_;exact zk.h):Q:=h ⟨a0⟩ ⟨a1⟩ ⟨a2⟩ ⟨k⟩
theorem zG4 {A0 A1 A2 A3 A4 Q:Prop} (a0:A0) (a1:A1) (a2:A2) (a3:A3) (a4:A4) (h:Zb A0→Zb A1→Zb A2→Zb A3→Zb A4→Q:=by
 intro z0 z1 z2 z3 z4;refine aI z0.h fun W S=>?_;refine aF z1.h ?_;refine aF z2.h ?_;refine aF z3.h ?_;refine aF z4.h ?_;exact aU z0.h):Q:=h ⟨a0⟩ ⟨a1⟩ ⟨a2⟩ ⟨a3⟩ ⟨a4⟩
theorem zH4 {A0 A1 A2 A3 A4 Q:Prop} {p:World→(Nat→Prop)→Prop} (a0:A0) (a1:A1) (a2:A2) (a3:A3) (a4:A4) (k:∀W S,p W S) (h:Zb A0→Zb A1→Zb A2→Zb A3→Zb A4→Zb (∀W S,p W S)→Q:=by
 intro z0 z1 z2 z3 z4 zk;refine aI z0.h fun W S=>?_;refine aF z1.h ?_;refine aF z2.h ?_;refine aF z3.h ?_;refine aF z4.h ?_;exact zk.h W S):Q:=h ⟨a0⟩ ⟨a1⟩ ⟨a2⟩ ⟨a3⟩ ⟨a4⟩ ⟨k⟩
theorem zC4 {A0 A1 A2 A3 P Q:Prop} (a0:A0) (a1:A1) (a2:A2) (a3:A3) (k:P) (h:Zb A0→Zb A1→Zb A2→Zb A3→Zb P→Q:=by
 intro z0 z1 z2 z3 zk;refine aF z0.h ?_;refine aF z1.h ?_;refine aF z2.h ?_;refine aF z3.h ?_;exact zk.h):Q:=h ⟨a0⟩ ⟨a1⟩ ⟨a2⟩ ⟨a3⟩ ⟨k⟩
theorem zH5 {A0 A1 A2 A3 A4 A5 Q:Prop} {p:World→(Nat→Prop)→Prop} (a0:A0) (a1:A1) (a2:A2) (a3:A3) (a4:A4) (a5:A5) (k:∀W S,p W S) (h:Zb A0→Zb A1→Zb A2→Zb A3→Zb A4→Zb A5→Zb (∀W S,p W S)→Q:=by
 intro z0 z1 z2 z3 z4 z5 zk;refine aI z0.h fun W S=>?_;refine aF z1.h ?_;refine aF z2.h ?_;refine aF z3.h ?_;refine aF z4.h ?_;refine aF z5.h ?_;exact zk.h W S):Q:=h ⟨a0⟩ ⟨a1⟩ ⟨a2⟩ ⟨a3⟩ ⟨a4⟩ ⟨a5⟩ ⟨k⟩
theorem zK5 {A0 A1 A2 A3 A4 A5 Q:Prop} (a0:A0) (a1:A1) (a2:A2) (a3:A3) (a4:A4) (a5:A5) (h:Zb A0→Zb A1→Zb A2→Zb A3→Zb A4→Zb A5→Q:=by
 intro z0 z1 z2 z3 z4 z5;refine aF z0.h ?_;refine aF z1.h ?_;refine aF z2.h ?_;refine aF z3.h ?_;refine aF z4.h ?_;exact aU z5.h):Q:=h ⟨a0⟩ ⟨a1⟩ ⟨a2⟩ ⟨a3⟩ ⟨a4⟩ ⟨a5⟩
theorem zC5 {A0 A1 A2 A3 A4 P Q:Prop} (a0:A0) (a1:A1) (a2:A2) (a3:A3) (a4:A4) (k:P) (h:Zb A0→Zb A1→Zb A2→Zb A3→Zb A4→Zb P→Q:=by
 intro z0 z1 z2 z3 z4 zk;refine aF z0.h ?_;refine aF z1.h ?_;refine aF z2.h ?_;refine aF z3.h ?_;refine aF z4.h ?_;exact zk.h):Q:=h ⟨a0⟩ ⟨a1⟩ ⟨a2⟩ ⟨a3⟩ ⟨a4⟩ ⟨k⟩
theorem uI {A0 A1 A2 A3 A4 A5 A6 Q:Prop} {p:World→(Nat→Prop)→Prop} (a0:A0) (a1:A1) (a2:A2) (a3:A3) (a4:A4) (a5:A5) (a6:A6) (k:∀W S,p W S) (h:Zb A0→Zb A1→Zb A2→Zb A3→Zb A4→Zb A5→Zb A6→Zb (∀W S,p W S)→Q:=by
 intro z0 z1 z2 z3 z4 z5 z6 zk;refine aI z0.h fun W S=>?_;refine aF z1.h ?_;refine aF z2.h ?_;refine aF z3.h ?_;refine aF z4.h ?_;refine aF z5.h ?_;refine aF z6.h ?_;exact zk.h W S):Q:=h ⟨a0⟩ ⟨a1⟩ ⟨a2⟩ ⟨a3⟩ ⟨a4⟩ ⟨a5⟩ ⟨a6⟩ ⟨k⟩
theorem zC6 {A0 A1 A2 A3 A4 A5 P Q:Prop} (a0:A0) (a1:A1) (a2:A2) (a3:A3) (a4:A4) (a5:A5) (k:P) (h:Zb A0→Zb A1→Zb A2→Zb A3→Zb A4→Zb A5→Zb P→Q:=by
 intro z0 z1 z2 z3 z4 z5 zk;refine aF z0.h ?_;refine aF z1.h ?_;refine aF z2.h ?_;refine aF z3.h ?_;refine aF z4.h ?_;refine aF z5.h ?_;exact zk.h):Q:=h ⟨a0⟩ ⟨a1⟩ ⟨a2⟩ ⟨a3⟩ ⟨a4⟩ ⟨a5⟩ ⟨k⟩
theorem kV {A0 P Q:Prop} (a0:A0) (k:P) (h:Zb A0→Zb P→Q:=by
 intro z0 zk;(first|refine xdl z0.h ?_|refine xdn z0.h ?_);simp only [go_sem];exact zk.h):Q:=h ⟨a0⟩ ⟨k⟩
theorem bZ {A0 P Q:Prop} (a0:A0) (k:P) (h:Zb A0→Zb P→Q:=by
 intro z0 zk;(first|refine xdl z0.h ?_|refine xdn z0.h ?_);refine bK ?_;exact zk.h):Q:=h ⟨a0⟩ ⟨k⟩
theorem oI {A0 P Q:Prop} (a0:A0) (k:P) (h:Zb A0→Zb P→Q:=by
 intro z0 zk;(first|refine xoc z0.h ?_|refine xod z0.h ?_);refine bK ?_;exact zk.h):Q:=h ⟨a0⟩ ⟨k⟩
theorem zcw {A0 P Q:Prop} (a0:A0) (k:P) (h:Zb A0→Zb P→Q:=by
 intro z0 zk;(first|refine xoc z0.h ?_|refine xod z0.h ?_);simp only [go_sem];exact zk.h):Q:=h ⟨a0⟩ ⟨k⟩
theorem uK {A0 Q:Prop} {p:World→(Nat→Prop)→Prop} (a0:A0) (k:∀W S,p W S) (h:Zb A0→Zb (∀W S,p W S)→Q:=by
 intro z0 zk;refine Fnc.intro z0.h (by simp) fun W S=>?_;simp only [ents,Nat.zero_add,Nat.reduceAdd,Qm,Qc,Ql,QL,Qf,Qs,Qb,Qk,QB,Qn,Qe,Qx,Qt,Qu,Q0,Q1,Qp,Qw,Qq,Qr,Qi];refine qL ?_;exact zk.h W S):Q:=h ⟨a0⟩ ⟨k⟩
end Rdn.Dp
namespace Go.Proofs.YthmjocibdepahaaGreat
open Go Go.RowKit Rdn Rdn.Dp
theorem aC (f:FuncId) {R:Prop} (h:gU Tryz.prog f=gU Tryz.prog f→R:=by
 intro h;(conv at h=>rhs;cbv);exact h):R:=h rfl
theorem cH {P:Program} {f:FuncId} {fn:Func} {c:Code} {n:Nat} {m:MC} {rs:List POp} (_:gU P f=gU P f) (h1:P.funcs[f]?=some fn) (h2:fn.body=some c) (hn:fn.ntmps=n) (h3:comp P n c=some m) (h4:xes P fn.results.toList=some rs):gU P f=some (n,m,rs):=by
 unfold gU;rw [h1];simp only [h2];rw [hn,h3,h4]
section
variable {P:Program} {n i:Nat} {a b:Code} {x y:MC} {c:Operand} {z:X} {ops:Array Oper} {l:List RO} {B:List (List Nat)}
theorem cSq (h:comp P n a=some x) (k:comp P n b=some y):comp P n (.seq a b)=some (.seq x y):=by simp only [comp];rw [h,k]
theorem cCo (h0:dC c=some z) (h:comp P n a=some x) (k:comp P n b=some y):comp P n (.cond c a b)=some (.cond z x y):=by simp only [comp];rw [h0,h,k]
theorem cBl (h:comp P n a=some x):comp P n (.block i a)=some (.block i x):=by simp only [comp];rw [h];rfl
theorem cLo (h:comp P n a=some x):comp P n (.loop a)=some (.loop x):=by simp only [comp];rw [h];rfl
theorem cDr (h:wE P n ops ops.toList=some l) (hB:xhd ops=B) (hr:xed ops B=true):comp P n (.region i ops true)=some (.dreg l B):=by
 simp only [comp];rw [h,hB];simp [hr]
theorem cRe (h:wE P n ops ops.toList=some l):comp P n (.region i ops false)=some (.reg l):=by
 simp only [comp];rw [h];simp
theorem cOk (h:xed ops B=true):xed ops B=true:=h
end
theorem zcs (f:FuncId) {R:Prop} (h:gU Tryz.prog f=gU Tryz.prog f→R:=by
 intro h;apply cH h
 ·conv=>lhs;cbv
 ·rfl
 ·dsimp only
 ·(repeat' (first|apply cSq|(apply cCo;rfl)|apply cBl|apply cLo|apply cRe|apply cDr));all_goals first|(refine cOk ?_;kernel_rfl)|(conv=>lhs;cbv)
 ·conv=>lhs;cbv):R:=h rfl
end Go.Proofs.YthmjocibdepahaaGreat
namespace Rdn.Dp
open Go Go.RowKit Rdn
section
variable {P:Program} {cx:Cx} {E E':Env} {σ:AS} {a:Act} {w w':World} {N:Nat} {Q:Exit→Act→World→Prop} {k:List It} {l:List RO} {n:Nat} {t:List (Nat×V)} {ob:List Ob}
theorem Gen.of {m:MOp} {x:V} {fp:List Nat} {wr:Option (Nat×Ob)} (wf:∀r o,wr=some (r,o)→r∈fp)
  (h:∀σ':AS,(∀y∈jV m,y.ev σ'=y.ev σ)→(∀q∈fp,σ'.ob[q]?=σ.ob[q]?)→∀{cx:Cx} {E:Env} {a:Act} {w:World} {o:Oper},Rel cx E σ' a w→rC P o.op=some m→nR P cx E a w o x {σ' with ob:=xho σ'.ob wr}):Gen P σ (.m m) x fp wr:=
 ⟨wf,fun σ' h1 h2 _ {cx E a w o} R hc S hS=>xjp (h σ' h1 h2 R (xg6 hc)) (fun v w' E' L hv R'=>hS v w' E' L hv R')⟩
theorem Rel.rowAt (R:Rel cx E σ a w) {r g s:Nat} {kk:OK} {q:List V} (hk:(∃e,kk=.row e)∨∃p e,kk=.rows p e) (k1:σ.ob[r]?=some ⟨kk,true,g,.arr s q⟩):
  ∃e u xs,(kk=.row e∨∃p,kk=.rows p e)∧E.ref[r]?=some (g,u)∧Unif s q∧0<s∧q.length≤140737488355328∧w.ownsRow (kk.base cx.W.heap.size) e s u q.length xs∧RdL E w q xs∧((∃e,kk=.row e)→V.pures q=true)∧(∀b,aP u=some b→¬E.B b):=by
 obtain⟨u,h1,h2⟩:=R.ob r _ k1;unfold OkO at h2;rcases hk with ⟨e,rfl⟩|⟨p,e,rfl⟩
 ·obtain⟨s',l',xs,q1,q2,q3,q4,q5,q6,q7,q8⟩:=h2
  injection q1 with q1 q1'
  subst q1 q1';exact⟨e,u,xs,.inl rfl,h1,q3,q4,q5,q6,q7,fun _=>q2,fun b hb=>by have:=q8 b hb;simpa using this⟩
 ·obtain⟨_,s',l',xs,q1,q3,q4,q5,q6,q7,q8⟩:=h2
  injection q1 with q1 q1'
  subst q1 q1';exact⟨e,u,xs,.inr ⟨p,rfl⟩,h1,q3,q4,q5,q6,q7,fun h=>(by obtain⟨_,h⟩:=h;cases h),fun b hb=>(q8 b hb).1⟩
theorem Rel.rewr (R:Rel cx E σ a w) {r g s:Nat} {kk:OK} {q:List V} {u:Value} {b:Nat} (hk:(∃e,kk=.row e)∨∃p e,kk=.rows p e) (k1:σ.ob[r]?=some ⟨kk,true,g,.arr s q⟩) (k4:E.ref[r]?=some (g,u)) (k6:aP u=some b):
  ∃cur T xs rest,w.heap[b]?=some (.cells cur T (0,0))∧cur.toList=xs++rest∧RdL E w q xs∧
   ∀(q':List V) (zs:List Value),q'.length=q.length→Unif s q'→RdL E w q' zs→((∃e,kk=.row e)→V.pures q'=true)→
    Leads E w E (w.setRow b (zs++rest).toArray)∧Rel cx E {σ with ob:=σ.ob.set r ⟨kk,true,g,.arr s q'⟩} a (w.setRow b (zs++rest).toArray):=by
 obtain⟨u',h1,k5⟩:=R.ob r _ k1;have h1:E.ref[r]?=some (g,u'):=h1;rw [k4] at h1;injection h1 with h1
 injection h1 with _ h1
 subst h1;obtain⟨cur,T,xs,rest,m1,m2,m3,m4⟩:=k5.heap k6;simp only [RdV] at m3;refine⟨cur,T,xs,rest,m1,m2,m3.1,fun q' zs hl hU hz hp=>?_⟩;have hS:Keep (fun b'=>aP u=some b') w (w.setRow b (zs++rest).toArray):=xxd w b _ k6;have L:Leads E w E (w.setRow b (zs++rest).toArray):=Leads.heap fun b' hb'=>hS.block b' (R.lt b' hb') (fun e=>k5.live_B rfl e hb');have hset:=xsk k4;have hlen:zs.length=xs.length:=by rw [hz.len,m3.1.len,wP hU,wP m3.2,hl]
 have hO:=m4 (v':=.arr s q') (setRow_heap w b cur _ T (0,0) m1) hlen (by simp only [RdV];exact⟨hz.mono L,hU⟩) (by
  rcases hk with ⟨e,rfl⟩|⟨p,e,rfl⟩
  ·exact⟨s,q,q',rfl,rfl,hl,hp ⟨e,rfl⟩⟩
  ·exact⟨s,q,q',rfl,rfl,hl⟩) rfl
 obtain⟨L',R'⟩:=R.touch (o':=⟨kk,true,g,.arr s q'⟩) (u':=u) k1 rfl k4 hS rfl (.inl ⟨rfl,rfl⟩) (fun b hb=> .inl hb) (by
  rw [show(⟨kk,true,g,.arr s q'⟩:Ob).g=g from rfl,hset];exact hO)
 rw [show(⟨kk,true,g,.arr s q'⟩:Ob).g=g from rfl,hset] at R';exact⟨L,R'⟩
theorem xs1 {r g s lo hi:Nat} {u v:Value} (h:RdT E w (.osl r g s lo hi) v) (hu:E.ref[r]?=some (g,u)):xrs s lo hi u v:=by
 simp only [RdT,RdV] at h;obtain⟨v',h1,_,_,h4⟩:=h;simp only [List.cons.injEq,and_true] at h1;subst h1;exact(h4 g u hu).2 rfl
theorem yp0 {r g s lo hi:Nat} {u v:Value} (hu:E.ref[r]?=some (g,u)) (h:xrs s lo hi u v):RdT E w (.osl r g s lo hi) v:=by
 simp only [RdT,RdV];refine⟨v,rfl,?_,(List.getElem?_eq_some_iff.1 hu).1,fun gc u' h'=>?_⟩
 ·obtain⟨A,n,c,A',_,rfl,_⟩:=h;rfl
 ·rw [hu] at h'
  injection h' with h'
  injection h' with h1 h2
  subst h1 h2;exact⟨Nat.le_refl _,fun _=>h⟩
theorem ybs {base n:Nat} {e:TypeId} {s:Nat} {v:Value} {xs:List Value} (h:w.ownsRow base e s v n xs):∃A c,v=.slice A n c∧n≤c:=by
 rcases h.2 with ⟨rfl,rfl⟩|⟨g,cap,cur,rfl,_,_,hc,_⟩
 ·exact⟨_,_,rfl,Nat.le_refl _⟩
 ·exact⟨_,_,rfl,hc⟩
theorem ytk (R:Rel cx E σ a w) {o:Oper} {T e:TypeId} {i:TypeInfo} {x:Operand} {lo hi:Option Operand} {lo' hi':Option X} (ho:o.op=.slice T x lo hi none) (hT:P.underlying T=some (.slice e)) (he:P.info? e=some i) (hlo:oK lo=some lo') (hhi:oK hi=some hi')
  {A:Option Addr} {n c:Nat} (hx:a.eval x=.slice A n c) (hn:n≤c) (b1:(aW 0 σ lo').2) (b2:(aW n σ hi').2) (h0:0≤(aW 0 σ lo').1) (h1:(aW 0 σ lo').1≤(aW n σ hi').1) (h2:(aW n σ hi').1≤n):
  (execOp a.eval o).run P w=.ok (.value (.slice (if c=(aW 0 σ lo').1.toNat then A else A.map (·.add ((aW 0 σ lo').1.toNat*i.size))) ((aW n σ hi').1.toNat-(aW 0 σ lo').1.toNat) (c-(aW 0 σ lo').1.toNat))) w:=by
 have B1:=xep R hlo b1;have B2:=xep R hhi b2;have hm:(Instr.sliceBounds true n c (lo.map a.eval) (hi.map a.eval) none).run P w=.ok ((aW 0 σ lo').1.toNat,(aW n σ hi').1.toNat,c) w:=by
  refine xsw ?_ ?_ h0 h1 ω
  ·rcases B1 with ⟨e,q⟩|⟨k,e⟩
   ·exact .inl ⟨e,q⟩
   ·exact .inr ⟨k,e⟩
  ·rcases B2 with ⟨e,q⟩|⟨k,e⟩
   ·exact .inl ⟨e,q⟩
   ·exact .inr ⟨k,e⟩
 simp only [execOp,ho,hx,Instr.sliceAt,Instr.slice,Sem.run_bind,run_underlying hT,Result.andThen_ok,Option.map_none,hm,Go.sizeOf,typeInfo,run_program,he,Sem.run_pure]
theorem yhz {op:Op} {s:Nat} {x:X} {lo hi:Option X} (hc:rC P op=some (.sl s x lo hi none)):∃T y lo' hi' e i,op=.slice T y lo' hi' none∧P.underlying T=some (.slice e)∧P.info? e=some i∧dC y=some x∧oK lo'=some lo∧oK hi'=some hi∧s=i.size:=by
 unfold rC at hc;split at hc
 case h_6 T y0 lo0 hi0 mx0=>
  split at hc
  ·rename_i h1
   split at hc
   ·rename_i h2
    simp only [Option.map_eq_some_iff,Option.bind_eq_some_iff] at hc;obtain⟨y,hx,l1,hlo,l2,hhi,l3,hmx,e⟩:=hc;injection e with e1 e2 e3 e4 e5
    subst e1 e2 e3 e4 e5;cases mx0 with
    |some z=>simp [oK] at hmx
    |none=>exact⟨_,_,_,_,_,_,rfl,h1,h2,hx,hlo,hhi,rfl⟩
   ·cases hc
  ·split at hc
   ·simp only [Option.map_eq_some_iff,Option.bind_eq_some_iff] at hc
    obtain⟨_,_,_,_,_,_,_,_,e⟩:=hc;cases e
   ·cases hc
  ·cases hc
 all_goals (repeat' split at hc)<;>first|(cases hc;done)|(simp [Option.bind_eq_some_iff] at hc;done)
theorem xF {r g s e:Nat} {kk:OK} {q:List V} {x:X} {lo hi:Option X} (hx:x.ev σ=.own r g) (hk:kk=.row e∨∃p,kk=.rows p e) (k1:σ.ob[r]?=some ⟨kk,true,g,.arr s q⟩) (b1:(aW 0 σ lo).2) (b2:(aW q.length σ hi).2) (h0:0≤(aW 0 σ lo).1) (h1:(aW 0 σ lo).1≤(aW q.length σ hi).1) (h2:(aW q.length σ hi).1≤q.length):
  Gen P σ (.m (.sl s x lo hi none)) (.osl r g s (aW 0 σ lo).1.toNat (aW q.length σ hi).1.toNat) [r] none:=by
 have hkk:(∃e,kk=.row e)∨∃p e,kk=.rows p e:=by
  rcases hk with h|⟨p,h⟩
  ·exact .inl ⟨e,h⟩
  ·exact .inr ⟨p,e,h⟩
 refine Gen.of (fun _ _ h=>by cases h) (fun σ' hev hob {cx E a w o} R hc=>?_);obtain⟨T,y,lo',hi',e',i,e1,e2,e3,e4,e5,e6,rfl⟩:=yhz hc;have q1:σ'.ob[r]?=some ⟨kk,true,g,.arr i.size q⟩:=by rw [hob r ξ];exact k1
 obtain⟨e0,u,xs,_,hu,hU,hs0,hql,hown,hrd,hpu,hB⟩:=R.rowAt hkk q1;have hv:=dX R e4;rw [hev x (by simp [jV]),hx] at hv;have hvu:a.eval y=u:=by
  simp only [RdT,RdV] at hv;obtain⟨v',m1,_,_,m4⟩:=hv;simp only [List.cons.injEq,and_true] at m1;subst m1;exact(m4 g u hu).2 rfl
 obtain⟨A,c,hA,hnc⟩:=ybs hown;have bl:∀d,aW d σ' lo=aW d σ lo:=fun d=>xeo fun z hz=>hev z (by simp [jV,hz]);have bh:∀d,aW d σ' hi=aW d σ hi:=fun d=>xeo fun z hz=>hev z (by simp [jV,hz]);have hrun:=ytk (P:=P) R e1 e2 e3 e5 e6 (hvu.trans hA) hnc (by rw [bl];exact b1) (by rw [bh];exact b2) (by rw [bl];exact h0) (by rw [bl,bh];exact h1) (by rw [bh];exact h2);rw [bl,bh] at hrun;refine⟨_,w,E,.inl hrun,Leads.refl _ _,yp0 hu ?_,R⟩;subst hA;exact⟨A,q.length,c,_,rfl,rfl,ω,ω,hnc,fun h=>by rw [if_neg ω]⟩
def xdb (r g s:Nat) (q:List V):V→List V×Prop
 | .sl _ s' m=>(m,m=[]∨s'=s)
 | .nilS=>([],True)
 | .osl r' g' s' lo hi=>((q.take hi).drop lo,r'=r∧g'=g∧s'=s)
 |_=>([],False)
theorem yv8 {r g s:Nat} {q:List V} {u:Value} {base:Nat} {e:TypeId} {xs:List Value} (hu:E.ref[r]?=some (g,u)) (hU:Unif s q) (hown:w.ownsRow base e s u q.length xs) (hrd:RdL E w q xs) {y:V} {v:Value} (hv:RdT E w y v) (h:(xdb r g s q y).2):
  ∃A c ys,v=.slice A (xdb r g s q y).1.length c∧(V.pures q=true→V.pures (xdb r g s q y).1=true)∧Unif s (xdb r g s q y).1∧RdL E w (xdb r g s q y).1 ys∧(0<(xdb r g s q y).1.length→∃b o,A=some ⟨b,o,none⟩∧At w b o ys)∧(A=none→(xdb r g s q y).1=[]):=by
 unfold xdb at h⊢;split at h
 ·rename_i t s' m
  simp only [RdT,RdV] at hv;obtain⟨h1,h2,A,c,h3,h4,h5,h6⟩:=hv;simp only [List.cons.injEq,and_true] at h3;subst h3;by_cases h0:0<m.length
  ·obtain⟨b,o,xs',hA,_,_,hr,ha⟩:=h6 h0
   have hs:s'=s:=by
    rcases h with h|h
    ·subst h;simp at h0
    ·exact h
   subst hs;exact⟨A,c,xs',rfl,fun _=>h1,h2,hr,fun _=>⟨b,o,hA,ha⟩,fun e=>by rw [hA] at e;cases e⟩
  ·have:m=[]:=List.eq_nil_of_length_eq_zero ω
   subst this;exact⟨A,c,[],rfl,fun _=>rfl,fun _ h=>(by cases h),by simp [RdL],fun h=>absurd h ξ,fun _=>rfl⟩
 ·simp only [RdT,RdV,List.cons.injEq,and_true] at hv
  subst hv;exact⟨none,0,[],rfl,fun _=>rfl,fun _ h=>(by cases h),by simp [RdL],fun h=>absurd h ξ,fun _=>rfl⟩
 ·rename_i r' g' s' lo hi
  obtain⟨rfl,rfl,rfl⟩:=h;obtain⟨A,n,c,A',e1,e2,e3,e4,e5,e6⟩:=xs1 hv hu;obtain⟨A0,c0,f1,f2⟩:=ybs hown;rw [e1] at f1;injection f1 with f1 f3 f4
  subst f1 f3 f4;have hlen:((q.take hi).drop lo).length=hi-lo:=by rw [List.length_drop,List.length_take,Nat.min_eq_left e4]
  have e0:q=(q.take hi)++q.drop hi:=(List.take_append_drop hi q).symm;have hrd':RdL E w ((q.take hi)++q.drop hi) xs:=by rw [←e0];exact hrd
  obtain⟨ys,zs,rfl,k1,k2⟩:=hrd'.split;have e0':q.take hi=(q.take hi).take lo++(q.take hi).drop lo:=(List.take_append_drop lo _).symm;have k1':RdL E w ((q.take hi).take lo++(q.take hi).drop lo) ys:=by rw [←e0'];exact k1
  obtain⟨ys1,ys2,rfl,m1,m2⟩:=k1'.split;have hl1:ys1.length=lo*s':=by
   rw [m1.len,wP ((hU.take hi).take lo),List.length_take,List.length_take,Nat.min_eq_left e4,Nat.min_eq_left e3,Nat.mul_comm]
  refine⟨A',c-lo,ys2,by rw [hlen];exact e2,fun hp=>pures_iff.2 fun x hx=>pures_iff.1 hp x (List.mem_of_mem_take (List.mem_of_mem_drop hx)),(hU.take hi).drop lo,m2,fun h0=>?_,fun hA=>?_⟩
  ·rw [hlen] at h0
   have hlt:lo<c:=ω;rcases hown.2 with ⟨f1,f2⟩|⟨gb,cap,cur,f1,f2,f3,f4,f5,f6,f7⟩
   ·omega
   ·rw [e1] at f1
    injection f1 with f1 _ f8
    subst f1 f8;refine⟨gb,lo*s',by rw [e6 hlt];simp [Addr.add_lit],fun j v hj=>?_⟩;have hjl:j<ys2.length:=(List.getElem?_eq_some_iff.1 hj).1;have hx:(ys1++ys2++zs)[lo*s'+j]?=some v:=by
     rw [List.append_assoc,List.getElem?_append_right ω,hl1,Nat.add_sub_cancel_left,List.getElem?_append_left hjl];exact hj
    rw [←f7,List.getElem?_take] at hx;split at hx
    ·simpa [World.cell?,f3] using hx
    ·cases hx
  ·by_cases h0:lo<hi
   ·have hlt:lo<c:=ω
    rcases hown.2 with ⟨f1,f2⟩|⟨gb,cap,cur,f1,f2,f3,f4,f5,f6,f7⟩
    ·omega
    ·rw [e1] at f1
     injection f1 with f1 _ _
     subst f1;have:=e6 hlt;rw [hA] at this;cases this
   ·exact List.eq_nil_of_length_eq_zero (by rw [hlen];omega)
 ·exact h.elim
theorem RdL.cutAt {s:Nat} {q:List V} {xs:List Value} (h:RdL E w q xs) (hU:Unif s q) (j:Nat) (hj:j≤q.length):RdL E w (q.take j) (xs.take (j*s))∧RdL E w (q.drop j) (xs.drop (j*s)):=by
 have e0:q=(q.take j)++q.drop j:=(List.take_append_drop j q).symm;have h':RdL E w ((q.take j)++q.drop j) xs:=by rw [←e0];exact h
 obtain⟨ys,zs,rfl,k1,k2⟩:=h'.split;have hl:ys.length=j*s:=by rw [k1.len,wP (hU.take j),List.length_take,Nat.min_eq_left hj,Nat.mul_comm]
 rw [List.take_left' hl,List.drop_left' hl];exact⟨k1,k2⟩
def over (q:List V) (j:Nat) (m:List V):List V:=q.take j++m++q.drop (j+m.length)
theorem xjg {q m:List V} {j:Nat} (h:j+m.length≤q.length):(over q j m).length=q.length:=by
 simp only [over,List.length_append,List.length_take,List.length_drop];omega
theorem yqw {s:Nat} {q m:List V} {xs ys:List Value} {j:Nat} (h:RdL E w q xs) (hU:Unif s q) (hm:RdL E w m ys) (hUm:Unif s m) (hj:j+m.length≤q.length):
  RdL E w (over q j m) (xs.take (j*s)++ys++xs.drop (j*s+ys.length))∧Unif s (over q j m):=by
 have hyl:ys.length=m.length*s:=by rw [hm.len,wP hUm,Nat.mul_comm]
 refine⟨?_,fun x hx=>?_⟩
 ·rw [hyl,←Nat.add_mul]
  exact((h.cutAt hU j ω).1.app hm).app (h.cutAt hU (j+m.length) hj).2
 ·simp only [over,List.mem_append] at hx
  rcases hx with (hx|hx)|hx
  ·exact hU x (List.mem_of_mem_take hx)
  ·exact hUm x hx
  ·exact hU x (List.mem_of_mem_drop hx)
theorem xjh (q:List V) (j:Nat):over q j []=q:=by simp [over]
theorem yqv {cur xs rest ys:List Value} {o:Nat} (h:cur=xs++rest) (hl:o+ys.length≤xs.length):cur.take o++ys++cur.drop (o+ys.length)=(xs.take o++ys++xs.drop (o+ys.length))++rest:=by
 subst h;rw [List.take_append_of_le_length ω,List.drop_append_of_le_length hl];simp [List.append_assoc]
theorem Rel.over (R:Rel cx E σ a w) {r g s:Nat} {kk:OK} {q m:List V} {u:Value} {ys:List Value} {j:Nat} (hk:(∃e,kk=.row e)∨∃p e,kk=.rows p e) (k1:σ.ob[r]?=some ⟨kk,true,g,.arr s q⟩) (k4:E.ref[r]?=some (g,u)) (hU:Unif s q) (hm:RdL E w m ys) (hUm:Unif s m) (hp:(∃e,kk=.row e)→V.pures (over q j m)=true) (hj:j+m.length≤q.length) (h0:0<m.length):
  ∃b cur T c,u=.slice (some ⟨b,0,none⟩) q.length c∧w.heap[b]?=some (.cells cur T (0,0))∧j*s+ys.length≤cur.size∧q.length≤c∧Leads E w E (w.setRow b (cur.toList.take (j*s)++ys++cur.toList.drop (j*s+ys.length)).toArray)∧
   Rel cx E {σ with ob:=σ.ob.set r ⟨kk,true,g,.arr s (Dp.over q j m)⟩} a (w.setRow b (cur.toList.take (j*s)++ys++cur.toList.drop (j*s+ys.length)).toArray):=by
 obtain⟨e,u',xs0,_,hu,_,hs0,hql,hown,hrd,hpu,hB⟩:=R.rowAt hk k1;rw [k4] at hu;injection hu with hu
 injection hu with _ hu
 subst hu;rcases hown.2 with ⟨rfl,f2⟩|⟨gb,cap,cur0,rfl,f2,f3,f4,f5,f6,f7⟩
 ·omega
 obtain⟨cur,T,xs,rest,m1,m2,m3,m4⟩:=R.rewr (b:=gb) hk k1 k4 rfl;have hxl:xs.length=q.length*s:=by rw [m3.len,wP hU,Nat.mul_comm]
 have hyl:ys.length=m.length*s:=by rw [hm.len,wP hUm,Nat.mul_comm]
 have hle:j*s+ys.length≤xs.length:=by rw [hyl,hxl,←Nat.add_mul];exact Nat.mul_le_mul_right _ hj
 obtain⟨h1,h2⟩:=yqw m3 hU hm hUm hj;obtain⟨L,R'⟩:=m4 _ _ (xjg hj) h2 h1 hp;rw [←yqv m2 hle] at L R';refine⟨gb,cur,T,cap,rfl,m1,?_,f4,L,R'⟩;rw [←Array.length_toList,m2,List.length_append];omega
theorem yhx {op:Op} {e s b:Nat} {x y:X} (hc:rC P op=some (.app e s b x y)):∃x0 y0 t i z,op=.call {callee:=.builtin .append,args:=#[x0,y0],argTypes:=#[t,t]}∧P.underlying t=some (.slice e)∧P.info? e=some i∧i.zero=some z∧z.cells.size=i.size∧0<i.size∧dC x0=some x∧dC y0=some y∧s=i.size∧b=i.bytes:=by
 unfold rC at hc;split at hc
 case h_8 b aas ts=>
  split at hc
  ·rename_i x y t t' e1 e2
   obtain⟨aas⟩:=aas;obtain⟨ts⟩:=ts;have e1:aas=[x,y]:=e1;have e2:ts=[t,t']:=e2;subst e1 e2;split at hc
   ·rename_i ht
    subst ht;split at hc
    ·rename_i h1
     split at hc
     ·rename_i h2
      split at hc
      ·rename_i h3
       split at hc
       ·rename_i h4
        simp only [Option.map_eq_some_iff,Option.bind_eq_some_iff] at hc;obtain⟨x',hx,y',hy,e⟩:=hc;injection e with e1 e2 e3 e4 e5
        subst e1 e2 e3 e4 e5;exact⟨_,_,_,_,_,rfl,h1,h2,h3,h4.1,h4.2,hx,hy,rfl,rfl⟩
       ·cases hc
      ·cases hc
     ·cases hc
    ·cases hc
   ·(repeat' split at hc)<;>first|(cases hc;done)|(simp [Option.bind_eq_some_iff] at hc;done)
  ·(repeat' split at hc)<;>first|(cases hc;done)|(simp [Option.bind_eq_some_iff] at hc;done)
  ·cases hc
 all_goals (repeat' split at hc)<;>first|(cases hc;done)|(simp [Option.bind_eq_some_iff] at hc;done)
theorem yhy {op:Op} {e s:Nat} {x y:X} (hc:rC P op=some (.copy e s x y)):∃x0 y0 t i,op=.call {callee:=.builtin .copy,args:=#[x0,y0],argTypes:=#[t,t]}∧P.underlying t=some (.slice e)∧P.info? e=some i∧0<i.size∧dC x0=some x∧dC y0=some y∧s=i.size:=by
 unfold rC at hc;split at hc
 case h_8 b aas ts=>
  split at hc
  ·(repeat' split at hc)<;>first|(cases hc;done)|(simp [Option.bind_eq_some_iff] at hc;done)
  ·rename_i x y t t' e1 e2
   obtain⟨aas⟩:=aas;obtain⟨ts⟩:=ts;have e1:aas=[x,y]:=e1;have e2:ts=[t,t']:=e2;subst e1 e2;split at hc
   ·rename_i ht
    subst ht;split at hc
    ·rename_i h1
     split at hc
     ·rename_i h2
      split at hc
      ·rename_i h4
       simp only [Option.map_eq_some_iff,Option.bind_eq_some_iff] at hc;obtain⟨x',hx,y',hy,e⟩:=hc;injection e with e1 e2 e3 e4
       subst e1 e2 e3 e4;exact⟨_,_,_,_,rfl,h1,h2,h4,hx,hy,rfl⟩
      ·cases hc
     ·cases hc
    ·cases hc
   ·cases hc
  ·cases hc
 all_goals (repeat' split at hc)<;>first|(cases hc;done)|(simp [Option.bind_eq_some_iff] at hc;done)
theorem yti (w:World) {t ty e:TypeId} {i:TypeInfo} (hu:P.underlying t=some (.slice e)) (hi:P.info? e=some i) (gb o dLen dCap:Nat) (ad:Addr) (m c:Nat) (cur:Array Value) (T:TypeId) (cs:List Value)
  (hg:w.heap[gb]?=some (.cells cur T (0,0))) (hl:cs.length=Nat.min m dLen*i.size) (hsrc:∀j v,cs[j]?=some v→w.cell? (ad.add j)=some v) (hfit:o+cs.length≤cur.size) (h1:∀v∈cs,v.oneCell'=true):
  (Builtin.copy_ #[t,t] ty #[.slice (some ⟨gb,o,none⟩) dLen dCap,.slice (some ad) m c]).run P w=
   .ok (.int .i64 (Nat.min m dLen:Nat)) (w.setRow gb (cur.toList.take o++cs++cur.toList.drop (o+cs.length)).toArray):=by
 have hl':=run_firstCells_some (P:=P) w i.size (Nat.min m dLen) ad m c cs hl hsrc;have hst:=run_storeCells_at P gb o T cs 0 cur w hg (by simpa using hfit) h1;simp only [Nat.add_zero] at hst;simp [Builtin.copy_,run_underlying hu,Builtin.lenOf,Go.sizeOf,typeInfo,hi,hl',hst,goInt]
theorem ytj (w:World) {t ty e:TypeId} {i:TypeInfo} (hu:P.underlying t=some (.slice e)) (hi:P.info? e=some i) (A A':Option Addr) (dLen dCap m c:Nat) (h0:Nat.min m dLen=0):
  (Builtin.copy_ #[t,t] ty #[.slice A dLen dCap,.slice A' m c]).run P w=.ok (.int .i64 0) w:=by
 cases A<;>cases A'<;>simp [Builtin.copy_,run_underlying hu,Go.sizeOf,typeInfo,hi,Builtin.lenOf,Builtin.firstCells,loadCells,loadCellsFrom,storeCells,h0,goInt]
attribute [go_sem] xho
end
end Rdn.Dp
