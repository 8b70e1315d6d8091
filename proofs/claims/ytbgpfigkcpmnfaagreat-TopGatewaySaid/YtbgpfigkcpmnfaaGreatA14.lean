import Derived.Test.YtbgpfigkcpmnfaaGreatA10
import Derived.Test.YtbgpfigkcpmnfaaGreatA13
set_option linter.unusedSimpArgs false
set_option linter.unusedVariables false
namespace Go.Proofs.YtbgpfigkcpmnfaaGreat
open Go Go.RowKit Rdn Rdn.Dp
def xee (p:PProg) (t:Nat) (r:PMach×Int):Prop:=r.2=1→1≤r.1.thr[t]!.pc∧r.1.thr[t]!.pc≤p.code.length∧p.code[(r.1.thr[t]!.pc-1).toNat]!.op=23∧r.1.thr[t]!.state=2
theorem yca {p:PProg} {C:Int} {m:PMach} (h:okMach p C m) {t:Nat} (ht:t<4):xee p t (sOne p m t):=by
 obtain⟨-,-,-,-,p0,p1,-⟩:=xcm h ht;have hn:=h.n;have no:∀(r:PMach×Int),r.2=-1∨r.2=2→xee p t r:=fun r hr h1=>by omega
 unfold sOne;dsimp only;refine xa6 (P:=xee p t) (fun _=>no _ (.inr rfl)) fun c0=>?_;refine xa6 (P:=xee p t) (fun _=>no _ (.inl rfl)) fun _=>?_;refine xa6 (P:=xee p t) (fun _=>no _ (.inl rfl)) fun _=>?_;refine xa6 (P:=xee p t) (fun _=>no _ (.inl rfl)) fun _=>?_;refine xa6 (P:=xee p t) (fun _=>no _ (.inl rfl)) fun _=>?_;refine xa6 (P:=xee p t) (fun _=>?_) fun _=>?_
 ·refine xa6 (P:=xee p t) (fun _=>no _ (.inr rfl)) fun _=>?_
  exact xa6 (P:=xee p t) (fun _=>no _ (.inl rfl)) fun _=>no _ (.inl rfl)
 refine xa6 (P:=xee p t) (fun _=>no _ (.inl rfl)) fun _=>?_;refine xa6 (P:=xee p t) (fun _=>?_) fun _=>?_
 ·exact xa6 (P:=xee p t) (fun _=>no _ (.inr rfl)) fun _=>no _ (.inl rfl)
 refine xa6 (P:=xee p t) (fun _=>no _ (.inl rfl)) fun _=>?_;refine xa6 (P:=xee p t) (fun _=>?_) fun _=>?_
 ·refine xa6 (P:=xee p t) (fun _=>no _ (.inr rfl)) fun _=>?_
  exact xa6 (P:=xee p t) (fun _=>no _ (.inr rfl)) fun _=>no _ (.inl rfl)
 refine xa6 (P:=xee p t) (fun _=>?_) fun _=>?_
 ·exact xa6 (P:=xee p t) (fun _=>no _ (.inr rfl)) fun _=>no _ (.inl rfl)
 refine xa6 (P:=xee p t) (fun o=>?_) fun _=>?_
 ·intro _
  simp only [PMach.setT];rw [xit (by omega)];dsimp only;rw [Int.add_sub_cancel];exact⟨by omega,by omega,o,rfl⟩
 ·exact xa6 (P:=xee p t) (fun _=>no _ (.inr rfl)) fun _=>no _ (.inl rfl)
theorem xnd {p:PProg} {D:Int} {t:Nat} (ht:t<4) {til:Int} (htD:til≤D):∀(k:Nat) (m:PMach),okMach p D m→m.thr[t]!.count<til→xee p t (xbk p t til k m)
 |0,m,_,_=>fun h=>by cases h
 |k+1,m,h,hc=>by
  have ok:=xiy h ht (by omega);unfold xbk;refine xa6 (P:=xee p t) (fun _=>yca h ht) fun hg=>?_;have hg:(sOne p m t).2=-1:=Classical.byContradiction hg;obtain⟨_,_,_,g⟩:=xfv h ht hg;refine xa6 (P:=xee p t) (fun _=>fun h=>by cases h) fun hne=>?_;exact xnd ht htD k _ ok (by rcases g with g|g<;>omega)
theorem xo8 {p:PProg} {C n:Int} {m:PMach} (h:okMach p C m) {t:Nat} (ht:t<4) (hn:1≤n):xee p t (xf0 p m t n):=by
 have h':okMach p (C+n) m:=h.le (by omega);obtain⟨_,_,_,_,_,_,_,h8,_⟩:=xcm h ht;unfold xf0;refine xa6 (P:=xee p t) (fun _=>fun h=>by cases h) fun _=>?_;exact xnd ht (by omega) _ _ h' (by omega)
theorem xt6 (p:PProg) (m:PMach) (t:Nat):(sOne p m t).1.lay=m.lay:=by obtain⟨me,y,e,-⟩:=xi8 p m t;rw [e]
theorem xo7 {p:PProg} {t:Nat} {til:Int}:∀(k:Nat) (m:PMach),(xbk p t til k m).1.lay=m.lay
 |0,m=>rfl
 |k+1,m=>by
  unfold xbk;refine xa6 (P:=fun r:PMach×Int=>r.1.lay=m.lay) (fun _=>xt6 p m t) fun _=>?_;refine xa6 (P:=fun r:PMach×Int=>r.1.lay=m.lay) (fun _=>xt6 p m t) fun _=>?_;exact(xo7 k _).trans (xt6 p m t)
theorem yag (p:PProg) (m:PMach) (t:Nat) (n:Int):(xf0 p m t n).1.lay=m.lay:=by
 unfold xf0;exact xa6 (P:=fun r:PMach×Int=>r.1.lay=m.lay) (fun _=>rfl) fun _=>xo7 _ _
theorem xm6 {p:PProg} (h:okProg p) {x:PThr} (h1:1≤x.pc) (h2:x.pc≤p.code.length) (h3:p.code[(x.pc-1).toNat]!.op=23):0≤xf2 p x∧xf2 p x≤15:=by
 obtain⟨⟨-,-,-,-,-,⟨a,-,-⟩,-,-,b⟩,-,-⟩:=xhj h (k:=(x.pc-1).toNat) (by omega);exact⟨a,b h3⟩
def xii (p:PProg) (l:PLay) (x:PThr) (k:Nat):List Canon:=(List.range k).map fun i=>canS l p.sizes x.regs[i]!
def xj6 (p:PProg) (m:PMach) (x:PThr) (k:Nat):List Canon:=(List.range k).map fun i:Nat=>canS m.lay p.sizes (xrh m.mem (x.regs[1]!.val+(i:Int)))
def reqS (p:PProg) (m:PMach) (t:Nat) (stop:Int):PMach×Request:=
 let x:=m.thr[t]!
 if stop=2 then(m,⟨t,2,x.trap,x.count,x.pc,0,[],[]⟩)
 else if stop=1 then
  if chkS p m.lay x≠0 then(m.setT t (endS x (chkS p m.lay x) 0),⟨t,2,chkS p m.lay x,x.count,x.pc,0,[],[]⟩)
  else(m,⟨t,1,0,x.count,x.pc,xf2 p x,xii p m.lay x (kl (xf2 p x)).length,if bufS (xf2 p x)=1 then xj6 p m x x.regs[2]!.val.toNat else []⟩)
 else(m,⟨t,stop,0,x.count,x.pc,0,[],[]⟩)
def xhw (p:PProg) (m:PMach) (t:Nat) (n:Int):PMach×Request:=reqS p (xf0 p m t n).1 t (xf0 p m t n).2
theorem xvm (p:PProg) (l:PLay) (x:PThr) (k:Nat):xii p l x (k+1)=xii p l x k++[canS l p.sizes x.regs[k]!]:=by
 unfold xii;rw [List.range_succ,List.map_append];rfl
theorem xvt (p:PProg) (m:PMach) (x:PThr) (k:Nat):xj6 p m x (k+1)=xj6 p m x k++[canS m.lay p.sizes (xrh m.mem (x.regs[1]!.val+k))]:=by
 unfold xj6;rw [List.range_succ,List.map_append];rfl
theorem xm3 (p:PProg) (l:PLay) (x:PThr) (k:Nat):(xii p l x k).length=k:=by simp [xii]
theorem xq9 (p:PProg) (m:PMach) (x:PThr) (k:Nat):(xj6 p m x k).length=k:=by simp [xj6]
theorem yd0 {l:PLay} {s:List Int} (h:xeh l s) {a:Int} {q:Int×Int} (hq:resS l.bases s 0 a=some q):a=l.bases[q.1.toNat]!+q.2:=by
 have key:∀(n k:Nat),k+n=s.length→resS (l.bases.drop k) (s.drop k) k a=some q→a=l.bases[q.1.toNat]!+q.2:=by
  intro n
  induction n with
  |zero=>intro k hk hr;rw [show k=s.length by omega,xpf h.2.1] at hr;cases hr
  |succ n ih=>
   intro k hk hr;rw [xt8 (by omega) h.2.1] at hr;by_cases c:l.bases[k]!≤a∧a<l.bases[k]!+s[k]!
   ·rw [if_pos c] at hr
    injection hr with hr;subst hr
    show a=l.bases[((k:Int)).toNat]!+(a-l.bases[k]!);rw [Int.toNat_natCast];omega
   ·rw [if_neg c] at hr
    exact ih (k+1) (by omega) hr
 exact key s.length 0 (by omega) hq
theorem xrv {l:PLay} {s:List Int} (h:xeh l s) {c:Cell} {n:Int} (hw:(xdx l s c n).2=0):0≤c.val∧c.val+n≤512:=by
 unfold xdx at hw;by_cases ht:c.tag=1;rotate_left
 ·rw [if_pos ht] at hw;cases hw
 rw [if_neg (not_not_intro ht)] at hw;cases hq:resS l.bases s 0 c.val with
 |none=>rw [hq] at hw;cases hw
 |some q=>
  obtain⟨r,o⟩:=q;rw [hq] at hw;dsimp only at hw;by_cases e:n<0∨n>s[r.toNat]!-o
  ·rw [if_pos e] at hw;cases hw
  ·obtain⟨⟨i0,i1,i2,i3⟩,a0,a1⟩:=xjq h hq
   have:=yd0 h hq;dsimp only at i0 i1 i2 i3 this;have hl:=xfs h (k:=r.toNat) (by omega);omega
def putL (l:PLay) (s:List Int) (rg:Int):Int→List Canon→PMem→PMem×Bool
 |_,[],m=>(m,true)
 |o,c::d,m=>if(rawS l s c).2≠0∨¬insS s rg o then(m,false) else putL l s rg (o+1) d (xf1 m (l.bases[rg.toNat]!+o) (rawS l s c).1)
def putM (p:PProg) (m:PMach) (q:Request) (x:Rdn.Result):PMem×Bool:=
 if bufS q.call=2∧x.data≠[] then(if ¬xgi p.sizes q.args[1]!∨q.args[1]!.tag≠1 then(m.mem,false) else putL m.lay p.sizes q.args[1]!.region q.args[1]!.offset x.data m.mem) else(m.mem,true)
def putT (q:Request) (y:PThr) (v:Cell):PThr:=xnn (if q.call=12 then {y with handler:=q.args[0]!.val} else y) v
def spnB (q:Request) (x:Rdn.Result):Prop:=q.call=10∧0≤x.spawn
instance (q:Request) (x:Rdn.Result):Decidable (spnB q x):=by unfold spnB;exact inferInstance
def putN (p:PProg) (m:PMach) (q:Request) (x:Rdn.Result):List PThr:=if spnB q x then m.thr.set x.spawn.toNat (thrN q.args[0]!.val (rawS m.lay p.sizes q.args[1]!).1) else m.thr
def putC (p:PProg) (m:PMach) (q:Request) (x:Rdn.Result):Prop:=(q.call=12→q.args[0]!.val≤255∧q.args[0]!.tag=0)∧(spnB q x→(rawS m.lay p.sizes q.args[1]!).2=0∧m.thr[x.spawn.toNat]!.state=0∧q.args[0]!.val≤255∧q.args[0]!.tag=0)
instance (p:PProg) (m:PMach) (q:Request) (x:Rdn.Result):Decidable (putC p m q x):=by unfold putC;exact inferInstance
def putS (p:PProg) (m:PMach) (t:Nat) (q:Request) (x:Rdn.Result):PMach×Bool:=
 if(rawS m.lay p.sizes x.value).2≠0 then(m,false)
 else if(putM p m q x).2=false then(⟨m.lay,(putM p m q x).1,m.thr⟩,false)
 else if ¬putC p m q x then(⟨m.lay,(putM p m q x).1,m.thr⟩,false)
 else(⟨m.lay,(putM p m q x).1,(putN p m q x).set t (putT q m.thr[t]! (rawS m.lay p.sizes x.value).1)⟩,true)
def finS (p:PProg) (m:PMach) (t:Nat) (q:Request) (x:Rdn.Result):PMach×Bool:=
 if q.call=0 then(m.setT t (endS m.thr[t]! 0 q.args[0]!.val),true)
 else if x.wait=true then(m.setT t (yb6 m.thr[t]!),true)
 else if(putS p m t q x).2=true then putS p m t q x
 else(m,false)
def rngC (c:Canon):Prop:=0≤c.val∧c.val≤65535
theorem xjf {l:PLay} {s:List Int} (h:xeh l s) {r o:Int} (hi:insS s r o):0≤l.bases[r.toNat]!+o∧l.bases[r.toNat]!+o<512:=by
 obtain⟨i0,i1,i2,i3⟩:=hi;have hl:=xfs h (k:=r.toNat) (by omega);omega
theorem xzq {l:PLay} {s:List Int} (h:xeh l s) {rg:Int}:∀{d:List Canon} {o:Int} {m:PMem},xfi m→(∀c∈d,rngC c)→xfi (putL l s rg o d m).1
 |[],_,_,hm,_=>hm
 |c::d,o,m,hm,hd=>by
  unfold putL;refine xa6 (P:=fun r:PMem×Bool=>xfi r.1) (fun _=>hm) fun hc=>?_;have hi:insS s rg o:=Classical.byContradiction fun q=>hc (.inr q);obtain⟨a0,a1⟩:=xjf h hi;exact xzq h (xif hm a0 a1 (xkw l s (hd c (by simp)))) fun x hx=>hd x (by simp [hx])
theorem yhk {p:PProg} {C:Int} {m:PMach} (h:okMach p C m) {q:Request} {x:Rdn.Result} (hd:∀c∈x.data,rngC c):xfi (putM p m q x).1:=by
 unfold putM;refine xa6 (P:=fun r:PMem×Bool=>xfi r.1) (fun _=>?_) fun _=>h.mem;exact xa6 (P:=fun r:PMem×Bool=>xfi r.1) (fun _=>h.mem) fun _=>xzq h.lay h.mem hd
theorem yhm {C:Int} {y:PThr} (h:okThr C y) {v:Cell} (hv:xbh v) {q:Request} (hq:q.call=12→0≤q.args[0]!.val∧q.args[0]!.val≤255):okThr C (putT q y v):=by
 unfold putT;refine xvk ?_ hv;refine xa6 (P:=okThr C) (fun c=>?_) fun _=>h;obtain⟨a1,a2,a3,a4,a5,a6,a7,a8,a9,a10,a11⟩:=h;have:=hq c;exact⟨a1,a2,a3,a4,a5,a6,a7,a8,by show-1≤q.args[0]!.val;omega,by show q.args[0]!.val≤255;omega,a11⟩
theorem yhl {p:PProg} {C:Int} (hC:0≤C) {m:PMach} (h:okMach p C m) {q:Request} {x:Rdn.Result} (ha:∀c∈q.args,rngC c) (h2:q.call=10→q.args.length=2) (hc:putC p m q x):(putN p m q x).length=4∧∀y∈putN p m q x,okThr C y:=by
 unfold putN;by_cases s:spnB q x
 ·rw [if_pos s]
  have e:=h2 s.1;have r0:=ha _ (xam (l:=q.args) (k:=0) (by omega));have r1:=ha _ (xam (l:=q.args) (k:=1) (by omega));obtain⟨-,-,c3,-⟩:=hc.2 s;exact⟨by rw [List.length_set];exact h.n,fun y hy=>xh0 (P:=okThr C) h.thr (yin hC r0.1 c3 (xkw _ _ r1)) hy⟩
 ·rw [if_neg s]
  exact⟨h.n,h.thr⟩
theorem xzr {p:PProg} {C:Int} (hC:0≤C) {m:PMach} (h:okMach p C m) {t:Nat} (ht:t<4) {q:Request} {x:Rdn.Result} (hv:rngC x.value) (hd:∀c∈x.data,rngC c) (ha:∀c∈q.args,rngC c) (hl:q.call=10→q.args.length=2) (h12:q.call=12→q.args.length=1):okMach p C (putS p m t q x).1:=by
 have hm:=yhk h (q:=q) hd;have hk:okMach p C ⟨m.lay,(putM p m q x).1,m.thr⟩:=⟨h.prog,h.lay,hm,h.n,h.thr⟩;unfold putS;refine xa6 (P:=fun r:PMach×Bool=>okMach p C r.1) (fun _=>h) fun _=>?_;refine xa6 (P:=fun r:PMach×Bool=>okMach p C r.1) (fun _=>hk) fun _=>?_;refine xa6 (P:=fun r:PMach×Bool=>okMach p C r.1) (fun _=>hk) fun hc=>?_;have hc:putC p m q x:=Classical.not_not.1 hc;obtain⟨n1,n2⟩:=yhl hC h ha hl hc;refine⟨h.prog,h.lay,hm,by rw [List.length_set];exact n1,fun y hy=>xh0 (P:=okThr C) n2 (yhm (xcm h ht) (xkw _ _ hv) fun e=>?_) hy⟩;exact⟨(ha _ (xam (l:=q.args) (k:=0) (by have:=h12 e;omega))).1,(hc.1 e).1⟩
theorem yg6 {p:PProg} {C:Int} (hC:0≤C) {m:PMach} (h:okMach p C m) {t:Nat} (ht:t<4) {q:Request} {x:Rdn.Result} (hv:rngC x.value) (hd:∀c∈x.data,rngC c) (ha:∀c∈q.args,rngC c) (hl:q.call=10→q.args.length=2) (h12:q.call=12→q.args.length=1):okMach p C (finS p m t q x).1:=by
 unfold finS;refine xa6 (P:=fun r:PMach×Bool=>okMach p C r.1) (fun _=>h.set (Int.le_refl C) h.mem t (xxo (xcm h ht) _ (Int.le_refl 0) (by decide))) fun _=>?_;refine xa6 (P:=fun r:PMach×Bool=>okMach p C r.1) (fun _=>h.set (Int.le_refl C) h.mem t (ye4 (xcm h ht))) fun _=>?_;exact xa6 (P:=fun r:PMach×Bool=>okMach p C r.1) (fun _=>xzr hC h ht hv hd ha hl h12) fun _=>h
theorem xpb {l:PLay} {s:List Int} {rg o:Int} {d:List Canon} {m:PMem} {k:Nat} (hk:k<d.length) (h1:(rawS l s d[k]!).2=0) (h2:insS s rg o):putL l s rg o (d.drop k) m=putL l s rg (o+1) (d.drop (k+1)) (xf1 m (l.bases[rg.toNat]!+o) (rawS l s d[k]!).1):=by
 rw [List.drop_eq_getElem_cons hk,putL,if_neg]
 ·rw [getElem!_pos d k hk]
 ·rw [←getElem!_pos d k hk]
  rintro(q|q)
  ·exact q h1
  ·exact q h2
theorem xfx {l:PLay} {s:List Int} {rg o:Int} {d:List Canon} {m:PMem} {k:Nat} (hk:k<d.length) (h:(rawS l s d[k]!).2≠0∨¬insS s rg o):putL l s rg o (d.drop k) m=(m,false):=by
 rw [List.drop_eq_getElem_cons hk,putL,if_pos];rw [←getElem!_pos d k hk];exact h
theorem xlr {l:PLay} {s:List Int} {rg o:Int} {d:List Canon} {m:PMem} {k:Nat} (hk:d.length≤k):putL l s rg o (d.drop k) m=(m,true):=by
 rw [List.drop_of_length_le hk,putL]
end Go.Proofs.YtbgpfigkcpmnfaaGreat
