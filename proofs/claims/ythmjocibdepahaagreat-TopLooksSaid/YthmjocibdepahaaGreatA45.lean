import Derived.Test.YthmjocibdepahaaGreatA44
import Derived.Test.YthmjocibdepahaaGreatA29
set_option linter.unusedSimpArgs false
set_option linter.unusedVariables false
namespace Go.Proofs.YthmjocibdepahaaGreat
open Go Go.RowKit Rdn Rdn.Dp
theorem ygy (l:PLay) (s:List Int) {c:Cell} (h:iW c):(jD l s c).tag=c.tag:=by
 obtain⟨h0,h1,-,-⟩:=h;unfold jD;split
 ·rename_i e;exact e.symm
 ·split
  ·rename_i e;exact e.symm
  ·split<;>(dsimp only;omega)
theorem xkb {l:PLay} {s:List Int} (hl:jW l s) {c:Cell} (h:iW c):iH (jD l s c)=true∧kQ (jD l s c):=by
 obtain⟨h0,h1,h2,h3⟩:=h;unfold jD;split
 ·exact⟨aN (.inl ⟨.inl rfl,rfl,rfl⟩),h2,h3⟩
 ·split
  ·exact⟨aN (.inl ⟨.inr rfl,rfl,rfl⟩),by show 0≤IntKind.u16.wrap _;rw [uD];omega,by show IntKind.u16.wrap _≤65535;rw [uD];omega⟩
  ·split
   ·rename_i r o e
    obtain⟨⟨i0,i1,i2,i3⟩,-⟩:=xd6 hl e;have hs:=hl.1.1 _ (dJ (l:=s) (k:=r.toNat) ω);have h4:=hl.1.2.2;dsimp only at i0 i1 i2 i3;exact⟨aN (.inr ⟨rfl,rfl,.inr ⟨i0,by dsimp only;omega,i2,by dsimp only;omega⟩⟩),by show(0:Int)≤0∧(0:Int)≤65535;decide⟩
   ·exact⟨aN (.inr ⟨rfl,rfl,.inl ⟨rfl,h2,h3⟩⟩),by show(0:Int)≤0∧(0:Int)≤65535;decide⟩
theorem xl0 {α:Type} [Inhabited α] {f:α→List Int}:∀{l m:List α},l.length=m.length→(∀i,i<l.length→(f l[i]!).length=(f m[i]!).length∧(f l[i]! =f m[i]!→l[i]! =m[i]!))→l.flatMap f=m.flatMap f→l=m
 |[],[],_,_,_=>rfl
 |[],_::_,h,_,_=>by cases h
 |_::_,[],h,_,_=>by cases h
 |x::l,y::m,h,hp,e=>by
  simp only [List.flatMap_cons] at e;have h0:=hp 0 ξ;simp only [List.getElem!_cons_zero] at h0;obtain⟨e1,e2⟩:=List.append_inj e h0.1;rw [h0.2 e1,xl0 (by simpa using h) (fun i hi=>by simpa using hp (i+1) (by simpa using hi)) e2]
theorem xjl {v w:Int} (h0:0≤v∧v≤65535) (h1:0≤w∧w≤65535) (e:jA 2 v=jA 2 w):v=w:=by
 simp [jA,List.range_succ,Int.fdiv_eq_ediv_of_nonneg] at e;omega
theorem yrp {v w:Int} (h0:0≤v∧v≤1099511627776) (h1:0≤w∧w≤1099511627776) (e:jA 6 v=jA 6 w):v=w:=by
 simp [jA,List.range_succ,Int.fdiv_eq_ediv_of_nonneg] at e;omega
def qR (c:Canon):Prop:=iH c=true∧kQ c
theorem yh2 {x y:Canon} (hx:qR x) (hy:qR y) (e:zO x=zO y):x=y:=by
 obtain⟨t,v,r,o⟩:=x;obtain⟨t',v',r',o'⟩:=y;obtain⟨h1,h2⟩:=hx;obtain⟨h3,h4⟩:=hy;simp only [iH,decide_eq_true_eq] at h1 h3;simp only [okC,kQ] at h1 h2 h3 h4;unfold zO at e;dsimp only at e;by_cases c:t=1
 ·rw [if_pos c] at e
  by_cases c':t'=1
  ·rw [if_pos c'] at e
   simp only [List.cons.injEq] at e;obtain⟨-,e1,e2⟩:=e;have:=xjl ω ω e2;rw [bW ω ω,bW ω ω] at e1;simp only [Canon.mk.injEq];omega
  ·rw [if_neg c'] at e
   simp only [List.cons.injEq] at e;omega
 ·rw [if_neg c] at e
  by_cases c':t'=1
  ·rw [if_pos c'] at e
   simp only [List.cons.injEq] at e;omega
  ·rw [if_neg c'] at e
   simp only [List.cons.injEq] at e;have:=xjl ω ω e.2.2;simp only [Canon.mk.injEq];omega
theorem xur {l m:List Canon} (h:l.length=m.length) (hl:∀c∈l,qR c) (hm:∀c∈m,qR c) (e:zS l=zS m):l=m:=by
 unfold zS at e;rw [List.cons.injEq] at e;exact xl0 h (fun i hi=>⟨by rw [xoj,xoj],yh2 (hl _ (dJ hi)) (hm _ (dJ (h▸hi)))⟩) e.2
structure Fm (s:List Int) (a:State):Prop where
 ok:okState a
 rl:a.regions.length=s.length
 len:∀i,i<s.length→(a.regions[i]!.length:Int)=s[i]!
 reg:∀l∈a.regions,∀c∈l,qR c
 thr:∀v∈a.threads,(∀c∈v.regs,qR c)∧0≤v.code∧v.code≤65535
theorem yxg {v w:View} (hv:okView v) (hw:okView w) (h1:(∀c∈v.regs,qR c)∧0≤v.code∧v.code≤65535) (h2:(∀c∈w.regs,qR c)∧0≤w.code∧w.code≤65535) (e:vwB v=vwB w):v=w:=by
 unfold vwB at e;obtain⟨e,e5⟩:=List.append_inj e (by simp only [List.length_append,xba,List.length_cons,List.length_nil]);obtain⟨e,e4⟩:=List.append_inj e (by simp only [List.length_append,xba,List.length_cons,List.length_nil]);obtain⟨e,e3⟩:=List.append_inj e (by simp only [List.length_append,xba,List.length_cons,List.length_nil]);obtain⟨e,e2⟩:=List.append_inj e (by simp only [List.length_append,xba,List.length_cons,List.length_nil]);obtain⟨e,e1⟩:=List.append_inj e rfl;have f5:=xur (by rw [hv.len,hw.len]) h1.1 h2.1 e5;have f4:=xjl h1.2 h2.2 e4;obtain⟨a1,a2⟩:=hv.saved;obtain⟨a3,a4⟩:=hw.saved;have f3:=xjl ω ω e3;obtain⟨b1,b2⟩:=hv.handler;obtain⟨b3,b4⟩:=hw.handler;have f2:=xjl ω ω e2;have f1:=yrp hv.count hw.count e1;obtain⟨s,p,n,h,sv,tr,cd,rg⟩:=v;obtain⟨s',p',n',h',sv',tr',cd',rg'⟩:=w;simp only [List.cons.injEq] at e;simp only [View.mk.injEq];dsimp only at f1 f2 f3 f4 f5;exact⟨e.1,e.2.1,f1,ω,ω,e.2.2.1,f4,f5⟩
theorem yvh {s:List Int} {a b:State} (ha:Fm s a) (hb:Fm s b):stB a=stB b↔a=b:=by
 refine⟨fun e=>?_,fun e=>by rw [e]⟩;have hl:a.regions.length=b.regions.length:=by rw [ha.rl,hb.rl]
 have hr:∀i,i<a.regions.length→a.regions[i]!.length=b.regions[i]!.length:=fun i hi=>by
  have h1:=ha.len i (by rw [←ha.rl];exact hi);have h2:=hb.len i (by rw [←ha.rl];exact hi);omega
 unfold stB at e;rw [List.cons.injEq] at e;have hrl:(tC a.regions).length=(tC b.regions).length:=by
  have key:∀{l m:List (List Canon)},l.length=m.length→(∀i,i<l.length→l[i]!.length=m[i]!.length)→(tC l).length=(tC m).length:=fun {l}=>by
   induction l with
   |nil=>intro m h _;cases m with
    |nil=>rfl
    |cons y m=>cases h
   |cons x l ih=>intro m h hp;cases m with
    |nil=>cases h
    |cons y m=>
     have h0:=hp 0 ξ;simp only [List.getElem!_cons_zero] at h0;have:=ih (m:=m) (by simpa using h) fun i hi=>by simpa using hp (i+1) (by simpa using hi)
     simp only [tC,List.flatMap_cons,List.length_append,xhz] at this⊢;omega
  exact key hl hr
 obtain⟨e1,e2⟩:=List.append_inj e.2 hrl;have hv:a.threads.length=b.threads.length:=by rw [ha.ok.len,hb.ok.len]
 have r1:=xl0 hl (fun i hi=>⟨by rw [xhz,xhz,hr i hi],xur (hr i hi) (ha.reg _ (dJ hi)) (hb.reg _ (dJ (hl▸hi)))⟩) e1;have r2:=xl0 hv (fun i hi=>⟨by rw [xta (ha.ok.thr _ (dJ hi)).len,xta (hb.ok.thr _ (dJ (hv▸hi))).len],yxg (ha.ok.thr _ (dJ hi)) (hb.ok.thr _ (dJ (hv▸hi))) (ha.thr _ (dJ hi)) (hb.thr _ (dJ (hv▸hi)))⟩) e2;obtain⟨ra,ta⟩:=a;obtain⟨rb,tb⟩:=b;dsimp only at r1 r2;rw [r1,r2]
theorem xk1 {l:List Canon} (h:∀c∈l,qR c) {n:Int} (hn:(l.length:Int)≤n):fD l n=true:=by
 unfold fD;rw [Bool.and_eq_true,List.all_eq_true,decide_eq_true_eq];exact⟨fun c hc=>(h c hc).1,hn⟩
theorem xug {l:PLay} {s:List Int} (hl:jW l s) {x:List Cell} (h:nX x):∀c∈x.map (jD l s),qR c:=fun c hc=>by
 obtain⟨d,hd,rfl⟩:=List.mem_map.1 hc;exact xkb hl (h d hd)
theorem xsy {p:PProg} {m:PMach} (h:okMach p 1099511627776 m) (hc:∀x∈m.thr,0≤x.code∧x.code≤65535):Fm p.sizes (uZ p m):=by
 have hsz:=h.prog.sz;have hrl:(uZ p m).regions.length=p.sizes.length:=by simp [uZ]
 have hat:∀i,i<p.sizes.length→(uZ p m).regions[i]! =lH p m i:=fun i hi=>by
  rw [getElem!_pos _ i (by rw [hrl];exact hi)];simp [uZ]
 have hreg:∀l∈(uZ p m).regions,1≤l.length∧l.length≤32∧∀c∈l,qR c:=fun l hm=>by
  obtain⟨r,hr,rfl⟩:=List.mem_map.1 hm;rw [List.mem_range] at hr;have h4:=rG h.lay hr;rw [xjo];refine⟨ω,ω,fun c hc=>?_⟩;obtain⟨k,hk,rfl⟩:=List.mem_map.1 hc;rw [List.mem_range] at hk;exact xkb h.lay (xq6 h.mem ω ω)
 refine⟨⟨by rw [hrl];exact hsz.2.1,by rw [hrl];exact hsz.2.2,fun l hm=>?_,?_,fun v hv=>?_⟩,hrl,fun i hi=>?_,fun l hm=>(hreg l hm).2.2,fun v hv=>?_⟩
 ·obtain⟨a,b,c⟩:=hreg l hm
  exact⟨a,b,xk1 c ω⟩
 ·simp [uZ,h.n]
 ·obtain⟨x,hx,rfl⟩:=List.mem_map.1 hv
  obtain⟨h1,h2,h3,h4,h5,h6,h7,h8,h9,h10,h11,h12,h13,h14⟩:=h.thr x hx;have hl:(x.regs.map (jD m.lay p.sizes)).length=8:=by simp [h4]
  exact⟨⟨h2,h3⟩,⟨h5,h6⟩,⟨h7,h8⟩,⟨h9,h10⟩,⟨h11,h12⟩,⟨h13,h14⟩,hl,xk1 (xug h.lay h1) (by show((x.regs.map (jD m.lay p.sizes)).length:Int)≤8;rw [hl];decide)⟩
 ·have h4:=rG h.lay hi
  rw [hat i hi,xjo];omega
 ·obtain⟨x,hx,rfl⟩:=List.mem_map.1 hv
  exact⟨xug h.lay (h.thr x hx).1,hc x hx⟩
end Go.Proofs.YthmjocibdepahaaGreat
