import Derived.Test.YthmjocibdepahaaGreatA46
set_option linter.defProp false
set_option linter.unusedSimpArgs false
set_option linter.unusedVariables false
set_option maxHeartbeats 64000000
set_option maxRecDepth 100000
namespace Go.Proofs.YthmjocibdepahaaGreat
open Go Go.RowKit Rdn Rdn.Dp
def xyq:=aC 9
structure PFault where
 at_:Int
 replica:Int
 kind:Int
 thread:Int
 wher:Int
 bit:Int
abbrev xpg (f:PFault):V:=.agg [.int .i64 f.at_,.int .i64 f.replica,.int .i64 f.kind,.int .i64 f.thread,.int .i64 f.wher,.int .i64 f.bit]
structure okFault (f:PFault):Prop where
 at_:0≤f.at_∧f.at_≤100
 replica:0≤f.replica∧f.replica≤100
 kind:1≤f.kind∧f.kind≤6
 thread:0≤f.thread∧f.thread≤3
 wher:0≤f.wher∧f.wher<40
 bit:0≤f.bit∧f.bit<16
def gW (l:List Int) (k:Nat):Nat→Nat
 |0=>k
 |n+1=>aB l (gW l k n)
theorem xvb {l:List Int} {k:Nat} (h:k≤l.length):∀n,gW l k n≤l.length
 |0=>h
 |n+1=>aH (xvb h n)
def flt (l:List Int) (k:Nat):PFault:=⟨aG l k 1,aG l (gW l k 1) 1,1+aG l (gW l k 2) 6,aG l (gW l k 3) 2*aG l (gW l k 4) 4,aG l (gW l k 5) 40,aG l (gW l k 6) 16⟩
theorem yll (l:List Int) (k:Nat):okFault (flt l k):=by
 have g:∀(j:Nat) (n:Int),0<n→0≤aG l j n∧aG l j n<n:=fun j n h=>⟨iT h,iZ h⟩;have h0:=g k 1 δ;have h1:=g (gW l k 1) 1 δ;have h2:=g (gW l k 2) 6 δ;have h3:=g (gW l k 3) 2 δ;have h4:=g (gW l k 4) 4 δ;have h5:=g (gW l k 5) 40 δ;have h6:=g (gW l k 6) 16 δ;have h7:0≤aG l (gW l k 3) 2*aG l (gW l k 4) 4∧aG l (gW l k 3) 2*aG l (gW l k 4) 4≤3:=by
  rcases(show aG l (gW l k 3) 2=0∨aG l (gW l k 3) 2=1 by omega) with e|e<;>rw [e]<;>omega
 exact⟨⟨h0.1,by show aG l k 1≤100;omega⟩,⟨h1.1,by show aG l (gW l k 1) 1≤100;omega⟩,⟨by show 1≤1+aG l (gW l k 2) 6;omega,by show 1+aG l (gW l k 2) 6≤6;omega⟩,h7,h5,h6⟩
theorem yir (l:List Int) (k:Nat) (hk:k≤l.length):FncM Tryz.prog 9 87 (gV l k) [.int .i64 1,.int .i64 1] (fun x obs c=>x=xpg (flt l k)∧obs=[]∧c=gV l (gW l k 7)):=by
 have g:=xvb hk;have b3:=iZ (l:=l) (k:=gW l k 3) (n:=2) δ;have c3:=iT (l:=l) (k:=gW l k 3) (n:=2) δ;have b4:=iZ (l:=l) (k:=gW l k 4) (n:=4) δ;have c4:=iT (l:=l) (k:=gW l k 4) (n:=4) δ;have f0:=fB l k 1 hk δ;have f1:=fB l (gW l k 1) 1 (g 1) δ;have f2:=fB l (gW l k 2) 6 (g 2) δ;have f3:=fB l (gW l k 3) 2 (g 3) δ;have f4:=fB l (gW l k 4) 4 (g 4) δ;have f5:=fB l (gW l k 5) 40 (g 5) δ;have f6:=fB l (gW l k 6) 16 (g 6) δ;have e2:=iT (l:=l) (k:=gW l k 2) (n:=6) δ;have d2:=iZ (l:=l) (k:=gW l k 2) (n:=6) δ;have w1:IntKind.i64.wrap (1+aG l (gW l k 2) 6)=1+aG l (gW l k 2) 6:=bW ω ω;have w2:IntKind.i64.wrap (aG l (gW l k 3) 2*aG l (gW l k 4) 4)=aG l (gW l k 3) 2*aG l (gW l k 4) 4:=by
  rcases(show aG l (gW l k 3) 2=0∨aG l (gW l k 3) 2=1 by omega) with e|e<;>rw [e]<;>exact bW ω ω
 refine qX xyq fun W S b0 hb0=>?_;refine aO (f0) ?_;refine aO (f1) ?_;refine aO (f2) ?_;refine aO (f3) ?_;refine aO (f4) ?_;refine aO (f5) ?_;refine aO (f6) ?_;refine dE hb0 xyq ?_
 ((try dsimp only);(repeat' (refine And.intro ?_ ?_))<;>first|with_reducible rfl|(simp only [go_sem];done)|(simp only [go_sem];rfl)|(simp only [go_sem,flt,w1,w2];done)|(simp only [flt,w1,w2];(try simp only [go_sem]);first|done|rfl)|(simp only [go_sem];simp [flt,w1,w2];done)|(simp [flt,w1,w2];done)|rfl)
def xyx:=aC 29
def ynu:=aC 26
def xqb:=aC 79
def xqd:=aC 148
def xqc:=aC 147
def yo1:=aC 77
def xzd:=aC 78
def yak:=aC 25
theorem xcl (l:List Cell) (hb:l.length≤5864062014634):Fnc Tryz.prog 79 [.sl false 2 (l.map bC)] (fun x obs=>x=.own 0 0∧obs=[⟨.row 117,true,0,.arr 2 (l.map bC)⟩]):=by
 refine Fnc.intro xqb ξ fun W S=>?_;simp only [ents,Nat.zero_add,Nat.reduceAdd,Qm,Qc,Ql,QL,Qf,Qs,Qb,Qk,QB,Qn,Qe,Qx,Qt,Qu,Q0,Q1,Qp,Qw,Qq,Qr,Qi];refine bF ?_;refine cZ ?_;refine bF ?_;refine kZ ?_;refine xew rfl trivial ?_;refine xgc rfl rfl fun b hb0=>?_;cases b with
 |false=>
  simp only [iF,X.ev,aV,AS.put,if_true];refine aA ?_;refine ret xqb [0] ?_;exact fP
 |true=>
  have hl:l=[]:=by
   cases l with
   |nil=>rfl
   |cons a l=>exact absurd (hb0 ξ) ξ
  subst hl;simp only [iF,X.ev,aV,AS.put,if_true];refine bF ?_;refine cZ ?_;refine bF ?_;refine pW (i:=2) (e:=117) (s:=2) rfl δ ?_;refine ret xqb [0] ?_;exact fP
theorem yhm (l:List PLine) (hb:l.length≤3518437208880):Fnc Tryz.prog 148 [.sl false 3 (l.map (iM false))] (fun x obs=>x=.own 0 0∧obs=[⟨.row 127,true,0,.arr 3 (l.map (iM false))⟩]):=by
 refine Fnc.intro xqd ξ fun W S=>?_;simp only [ents,Nat.zero_add,Nat.reduceAdd,Qm,Qc,Ql,QL,Qf,Qs,Qb,Qk,QB,Qn,Qe,Qx,Qt,Qu,Q0,Q1,Qp,Qw,Qq,Qr,Qi];refine bF ?_;refine cZ ?_;refine bF ?_;refine kZ ?_;refine xew rfl trivial ?_;refine xgc rfl rfl fun b hb0=>?_;cases b with
 |false=>
  simp only [iF,X.ev,aV,AS.put,if_true];refine aA ?_;refine ret xqd [0] ?_;exact fP
 |true=>
  have hl:l=[]:=by
   cases l with
   |nil=>rfl
   |cons a l=>exact absurd (hb0 ξ) ξ
  subst hl;simp only [iF,X.ev,aV,AS.put,if_true];refine bF ?_;refine cZ ?_;refine bF ?_;refine pW (i:=2) (e:=127) (s:=3) rfl δ ?_;refine ret xqd [0] ?_;exact fP
theorem yhl (l:List Int) (hb:l.length≤1000000):Fnc Tryz.prog 147 [.sl false 1 (l.map (V.int .i64))] (fun x obs=>x=.sl true 1 (l.map (V.int .i64))∧obs=[]):=by
 refine Fnc.intro xqc ξ fun W S=>?_;simp only [ents,Nat.zero_add,Nat.reduceAdd,Qm,Qc,Ql,QL,Qf,Qs,Qb,Qk,QB,Qn,Qe,Qx,Qt,Qu,Q0,Q1,Qp,Qw,Qq,Qr,Qi];refine bF ?_;refine cZ ?_;refine bF ?_;refine kZ ?_;refine xew rfl trivial ?_;refine xgc rfl rfl fun b hb0=>?_;cases b with
 |false=>
  simp only [iF,X.ev,aV,AS.put,if_true];refine aA ?_;exact aU xqc
 |true=>
  have hl:l=[]:=by
   cases l with
   |nil=>rfl
   |cons a l=>exact absurd (hb0 ξ) ξ
  subst hl;simp only [iF,X.ev,aV,AS.put,if_true];refine bF ?_;refine cZ ?_;refine bF ?_;refine tZ 2 true 1 rfl ?_;exact aU xqc
theorem ylt (f:PFault) (h:okFault f):Fnc Tryz.prog 26 [xpg f] (fun x obs=>x=.bool true∧obs=[]):=by
 obtain⟨⟨h1,h2⟩,⟨h3,h4⟩,⟨h5,h6⟩,h7,h8,h9⟩:=h;exact aZ ynu
def wG (v b:Int):Int:=zN .u16 v (1*2 ^ ((b+16) % 16).toNat % 65536)
theorem xpk {v b:Int} (h0:0≤v) (h1:v≤65535):0≤wG v b∧wG v b≤65535:=by
 have e:=ygo (k:=.u16) rfl h0 (by simp [IntKind.bits];omega) (Int.emod_nonneg (1*2 ^ ((b+16) % 16).toNat) (show(65536:Int)≠0 by decide)) (by have:=Int.emod_lt_of_pos (1*2 ^ ((b+16) % 16).toNat) (show(0:Int)<65536 by decide);simpa [IntKind.bits] using this);have h2:=e.2;simp only [IntKind.bits] at h2;unfold wG;rw [e.1];omega
theorem xpj (v b:Int) (h0:0≤b) (h1:b<16):Fnc Tryz.prog 29 [.int .u16 v,.int .i64 b] (fun x obs=>x=.int .u16 (wG v b)∧obs=[]):=by
 refine aI xyx fun W S=>?_;refine ret xyx [] ?_;(first|(simp only [go_sem];done)|(simp only [go_sem];((try dsimp only);(repeat' (refine And.intro ?_ ?_))<;>first|with_reducible rfl|(simp only [go_sem];done)|(simp only [go_sem];rfl)|(simp only [go_sem,wG];done)|(simp only [wG];(try simp only [go_sem]);first|done|rfl)|(simp only [go_sem];simp [wG];done)|(simp [wG];done)|rfl)))
theorem ys8 (l:PLay) (hb:l.bases.length≤1000):Fnc Tryz.prog 77 [dQ false l] (fun x obs=>x=dQ true l∧obs=[]):=by
 have f:=yhl l.bases ω;exact eY yo1 f
theorem yos (m:PMem) (h:nJ m):Fnc Tryz.prog 78 [iU false m] (fun x obs=>x=.agg [.own 0 0,.own 1 0]∧obs=[iE m.cells,⟨.rows false 127,true,0,.arr 3 [bP 2 m.lines[0]!,bP 3 m.lines[1]!,bP 4 m.lines[2]!,bP 5 m.lines[3]!]⟩,iE m.lines[0]!.cells,iE m.lines[1]!.cells,iE m.lines[2]!.cells,iE m.lines[3]!.cells]):=by
 obtain⟨cells,lines⟩:=m;obtain⟨k1,k2,k3,k4⟩:=h;obtain⟨x0,x1,x2,x3,rfl⟩:=gQ k2;dsimp only at k1 k3;have lc:∀x:PLine,∀i:Nat,lF i x→x.cells.length≤4:=fun x i h=>by
  unfold lF at h;split at h
  ·rw [h.2];simp
  ·omega
 have l0:=lc _ _ (k4 0 ω);have l1:=lc _ _ (k4 1 ω);have l2:=lc _ _ (k4 2 ω);have l3:=lc _ _ (k4 3 ω);clear lc k4 k2;simp only [List.getElem!_cons_zero,List.getElem!_cons_succ] at l0 l1 l2 l3;have g0:=xcl x0.cells ω;have g1:=xcl x1.cells ω;have g2:=xcl x2.cells ω;have g3:=xcl x3.cells ω;have f1:=xcl cells ω;have f2:=yhm [x0,x1,x2,x3] ξ;simp only [iE,bP,List.getElem!_cons_zero,List.getElem!_cons_succ];refine uK xzd fun W S=>?_;refine iL (fu:=oM) aT [2,5] 3 rfl κ ?_;simp only [go_sem]
 repeat(first|refine And.intro ω ?_|refine And.intro rfl ?_|refine gJ rfl rfl ?_|refine bY ?_|refine dI κ ?_|(simp (disch:=omega) only [fJ,Nat.min_eq_left,Nat.min_eq_right,if_pos,if_neg,fF,bW,dU,fH,fM,fK,aN,aJ,dB,dA,dP,dO,Int.toNat_natCast];try simp only [go_sem])|(refine dR rfl ?_ ?_;·(simp<;>omega))|(refine dZ rfl ?_ ?_;·(simp<;>omega))|((first|refine fQ ?_|refine gK rfl ?_|refine sQ [2,5] rfl ?_|refine jJ aT rfl κ ?_|refine jK aT rfl κ ?_|refine jL aT rfl κ ?_);simp only [go_sem]))
 refine zcw (f1) ?_;refine aA ?_;refine zcw (f2) ?_;refine aA ?_;refine iI 3 rfl ?_;refine fU 5 ?_;refine qL ?_;refine iL (fu:=oM) aT [5] 1 rfl κ ?_;simp only [go_sem]
 repeat(first|refine And.intro ω ?_|refine And.intro rfl ?_|refine gJ rfl rfl ?_|refine bY ?_|refine dI κ ?_|(simp (disch:=omega) only [fJ,Nat.min_eq_left,Nat.min_eq_right,if_pos,if_neg,fF,bW,dU,fH,fM,fK,aN,aJ,dB,dA,dP,dO,Int.toNat_natCast];try simp only [go_sem])|(refine dR rfl ?_ ?_;·(simp<;>omega))|(refine dZ rfl ?_ ?_;·(simp<;>omega))|((first|refine fQ ?_|refine gK rfl ?_|refine sQ [5] rfl ?_|refine jJ aT rfl κ ?_|refine jK aT rfl κ ?_|refine jL aT rfl κ ?_);simp only [go_sem]))
 refine oI (g0) ?_
 repeat(first|refine And.intro ω ?_|refine And.intro rfl ?_|refine gJ rfl rfl ?_|refine bY ?_|refine dI κ ?_|(simp (disch:=omega) only [fJ,Nat.min_eq_left,Nat.min_eq_right,if_pos,if_neg,fF,bW,dU,fH,fM,fK,aN,aJ,dB,dA,dP,dO,Int.toNat_natCast];try simp only [go_sem])|(refine dR rfl ?_ ?_;·(simp<;>omega))|(refine dZ rfl ?_ ?_;·(simp<;>omega))|((first|refine fQ ?_|refine gK rfl ?_|refine sQ [5] rfl ?_);simp only [go_sem]))
 refine iL (fu:=oM) aT [5] 1 rfl κ ?_;simp only [go_sem]
 repeat(first|refine And.intro ω ?_|refine And.intro rfl ?_|refine gJ rfl rfl ?_|refine bY ?_|refine dI κ ?_|(simp (disch:=omega) only [fJ,Nat.min_eq_left,Nat.min_eq_right,if_pos,if_neg,fF,bW,dU,fH,fM,fK,aN,aJ,dB,dA,dP,dO,Int.toNat_natCast];try simp only [go_sem])|(refine dR rfl ?_ ?_;·(simp<;>omega))|(refine dZ rfl ?_ ?_;·(simp<;>omega))|((first|refine fQ ?_|refine gK rfl ?_|refine sQ [5] rfl ?_|refine jJ aT rfl κ ?_|refine jK aT rfl κ ?_|refine jL aT rfl κ ?_);simp only [go_sem]))
 refine oI (g1) ?_
 repeat(first|refine And.intro ω ?_|refine And.intro rfl ?_|refine gJ rfl rfl ?_|refine bY ?_|refine dI κ ?_|(simp (disch:=omega) only [fJ,Nat.min_eq_left,Nat.min_eq_right,if_pos,if_neg,fF,bW,dU,fH,fM,fK,aN,aJ,dB,dA,dP,dO,Int.toNat_natCast];try simp only [go_sem])|(refine dR rfl ?_ ?_;·(simp<;>omega))|(refine dZ rfl ?_ ?_;·(simp<;>omega))|((first|refine fQ ?_|refine gK rfl ?_|refine sQ [5] rfl ?_);simp only [go_sem]))
 refine iL (fu:=oM) aT [5] 1 rfl κ ?_;simp only [go_sem]
 repeat(first|refine And.intro ω ?_|refine And.intro rfl ?_|refine gJ rfl rfl ?_|refine bY ?_|refine dI κ ?_|(simp (disch:=omega) only [fJ,Nat.min_eq_left,Nat.min_eq_right,if_pos,if_neg,fF,bW,dU,fH,fM,fK,aN,aJ,dB,dA,dP,dO,Int.toNat_natCast];try simp only [go_sem])|(refine dR rfl ?_ ?_;·(simp<;>omega))|(refine dZ rfl ?_ ?_;·(simp<;>omega))|((first|refine fQ ?_|refine gK rfl ?_|refine sQ [5] rfl ?_|refine jJ aT rfl κ ?_|refine jK aT rfl κ ?_|refine jL aT rfl κ ?_);simp only [go_sem]))
 refine oI (g2) ?_
 repeat(first|refine And.intro ω ?_|refine And.intro rfl ?_|refine gJ rfl rfl ?_|refine bY ?_|refine dI κ ?_|(simp (disch:=omega) only [fJ,Nat.min_eq_left,Nat.min_eq_right,if_pos,if_neg,fF,bW,dU,fH,fM,fK,aN,aJ,dB,dA,dP,dO,Int.toNat_natCast];try simp only [go_sem])|(refine dR rfl ?_ ?_;·(simp<;>omega))|(refine dZ rfl ?_ ?_;·(simp<;>omega))|((first|refine fQ ?_|refine gK rfl ?_|refine sQ [5] rfl ?_);simp only [go_sem]))
 refine iL (fu:=oM) aT [5] 1 rfl κ ?_;simp only [go_sem]
 repeat(first|refine And.intro ω ?_|refine And.intro rfl ?_|refine gJ rfl rfl ?_|refine bY ?_|refine dI κ ?_|(simp (disch:=omega) only [fJ,Nat.min_eq_left,Nat.min_eq_right,if_pos,if_neg,fF,bW,dU,fH,fM,fK,aN,aJ,dB,dA,dP,dO,Int.toNat_natCast];try simp only [go_sem])|(refine dR rfl ?_ ?_;·(simp<;>omega))|(refine dZ rfl ?_ ?_;·(simp<;>omega))|((first|refine fQ ?_|refine gK rfl ?_|refine sQ [5] rfl ?_|refine jJ aT rfl κ ?_|refine jK aT rfl κ ?_|refine jL aT rfl κ ?_);simp only [go_sem]))
 refine oI (g3) ?_
 repeat(first|refine And.intro ω ?_|refine And.intro rfl ?_|refine gJ rfl rfl ?_|refine bY ?_|refine dI κ ?_|(simp (disch:=omega) only [fJ,Nat.min_eq_left,Nat.min_eq_right,if_pos,if_neg,fF,bW,dU,fH,fM,fK,aN,aJ,dB,dA,dP,dO,Int.toNat_natCast];try simp only [go_sem])|(refine dR rfl ?_ ?_;·(simp<;>omega))|(refine dZ rfl ?_ ?_;·(simp<;>omega))|((first|refine fQ ?_|refine gK rfl ?_|refine sQ [5] rfl ?_);simp only [go_sem]))
 refine xbd xzd [2,3,6,8,10,12] ?_;exact fP
theorem yxs (m:PMach) {p:PProg} {C:Int} (h:okMach p C m):Fnc Tryz.prog 25 [eG false m] (fun x obs=>x=.agg [dQ true m.lay,.agg [.own 0 0,.own 1 0],.own 2 0]∧obs=[iE m.mem.cells,⟨.rows false 127,true,0,.arr 3 [bP 3 m.mem.lines[0]!,bP 4 m.mem.lines[1]!,bP 5 m.mem.lines[2]!,bP 6 m.mem.lines[3]!]⟩,⟨.rows false 113,true,0,.arr 8 [eQ 7 m.thr[0]!,eQ 8 m.thr[1]!,eQ 9 m.thr[2]!,eQ 10 m.thr[3]!]⟩,iE m.mem.lines[0]!.cells,iE m.mem.lines[1]!.cells,iE m.mem.lines[2]!.cells,iE m.mem.lines[3]!.cells,iE m.thr[0]!.regs,iE m.thr[1]!.regs,iE m.thr[2]!.regs,iE m.thr[3]!.regs]):=by
 have f:=yos m.mem h.mem;have fl:=ys8 m.lay (by have:=h.lay.2.1;have:=h.lay.1.2.2;omega);obtain⟨lay,mem,thr⟩:=m;obtain⟨hp,hl,hm,hn,ht⟩:=h;obtain⟨x0,x1,x2,x3,rfl⟩:=gQ hn;dsimp only at ht f fl;have r0:=(ht x0 ξ).2.2.2.1;have r1:=(ht x1 ξ).2.2.2.1;have r2:=(ht x2 ξ).2.2.2.1;have r3:=(ht x3 ξ).2.2.2.1;have g0:=xcl x0.regs ω;have g1:=xcl x1.regs ω;have g2:=xcl x2.regs ω;have g3:=xcl x3.regs ω;clear ht hn hm hl hp;simp only [iE,bP,eQ,List.getElem!_cons_zero,List.getElem!_cons_succ] at f⊢;refine uK yak fun W S=>?_;refine xku 6 ?_;simp only [List.replicate,List.cons_append,List.nil_append];refine aA ?_;refine aF (fl) ?_;refine xic (xwu (ws:=[iU false mem]) [2,3,4,5,6,7] f rfl δ (by intro r hr;simp at hr;rcases hr with rfl|rfl|rfl|rfl|rfl|rfl<;>rfl) rfl (by constructor<;>simp [V.ressOk,V.resOk,pK,bT]) (by simp only [go_sem];simp only [Subs];repeat(first|exact trivial|refine And.intro (Sub.refl _) ?_|refine And.intro (Sub.nil _) ?_)) (.inl rfl) (by simp only [go_sem];simp;simp only [go_sem]) χ) ξ rfl ?_;simp only [go_sem];refine aA ?_;refine lZ 8 2 113 8 rfl rfl δ rfl ?_;refine iI 9 rfl ?_;refine fU 5 ?_;refine qL ?_;refine oI (g0) ?_;refine bY ?_;refine bF ?_;refine kZ (dH (fu:=[(),(),()]) ?_);refine bK ?_;refine xC rfl rfl χ ?_;simp only [go_sem];refine dH (fu:=[(),(),()]) ?_;refine bK ?_;refine qL ?_;refine oI (g1) ?_;refine bY ?_;refine bF ?_;refine kZ (dH (fu:=[(),(),()]) ?_);refine bK ?_;refine xC rfl rfl χ ?_;simp only [go_sem];refine dH (fu:=[(),(),()]) ?_;refine bK ?_;refine qL ?_;refine oI (g2) ?_;refine bY ?_;refine bF ?_;refine kZ (dH (fu:=[(),(),()]) ?_);refine bK ?_;refine xC rfl rfl χ ?_;simp only [go_sem];refine dH (fu:=[(),(),()]) ?_;refine bK ?_;refine qL ?_;refine oI (g3) ?_;refine bY ?_;refine bF ?_;refine kZ (dH (fu:=[(),(),()]) ?_);refine bK ?_;refine xC rfl rfl χ ?_;simp only [go_sem];refine dH (fu:=[(),(),()]) ?_;refine bK ?_;refine qL ?_;refine xbd yak [2,3,9,4,5,6,7,11,14,17,20] ?_;exact fP
def xJ:=zcs 8
theorem xsj {p:PProg} {C:Int} {m:PMach} (h:okMach p C m) {t:Nat} {y:PThr} (hy:okThr C y):okMach p C (m.setT t y):=
 ⟨h.prog,h.lay,h.mem,by show(m.thr.set t y).length=4;rw [List.length_set];exact h.n,fun x hx=>(List.mem_or_eq_of_mem_set hx).elim (h.thr x) fun e=>e▸hy⟩
theorem ycl {C:Int} {x:PThr} (h:okThr C x) {r:Nat} {c:Cell} (hc:iW c):okThr C {x with regs:=x.regs.set r c}:=by
 obtain⟨h1,h2,h3,h4,h5⟩:=h;exact⟨fun y hy=>(List.mem_or_eq_of_mem_set hy).elim (h1 y) fun e=>e▸hc,h2,h3,by show(x.regs.set r c).length=8;rw [List.length_set];exact h4,h5⟩
theorem ywa {C:Int} {x:PThr} (h:okThr C x) {pc:Int} (hp:0≤pc∧pc≤255):okThr C {x with pc:=pc}:=by
 obtain⟨h1,h2,h3,h4,-,-,h5⟩:=h;exact⟨h1,h2,h3,h4,hp.1,hp.2,h5⟩
theorem yr1 {a b:Int} (ha:0≤a∧a≤255) (hb:0≤b∧b≤255):0≤zN .i64 a b∧zN .i64 a b≤255:=by
 have e:=ygn ha.1 ω hb.1 ω;have:=Nat.xor_lt_two_pow (x:=a.toNat) (y:=b.toNat) (n:=8) ω ω;rw [e.1];omega
theorem yaq {p:PProg} {C:Int} {m:PMach} (h:okMach p C m) {g:PMem} (hg:nJ g):okMach p C ⟨m.lay,g,m.thr⟩:=⟨h.prog,h.lay,hg,h.n,h.thr⟩
theorem yg2 (p:PProg) (m:PMach) (h:okMach p 1099511627776 m) (f:PFault) (hf:okFault f):∃o:PMach,okMach p 1099511627776 o∧Fnc Tryz.prog 8 [dM false p,eG false m,xpg f] (fun x obs=>x=eG true o∧obs=[]):=by
 have fc:=yxs m h;have fv:=ylt f hf;have fs:=yw3 p m h;have ft:=xgz f.thread 4 δ;have fw:=xgz f.wher 8 δ;obtain⟨r,hr⟩:∃r:Nat,f.wher % 8=r:=⟨(f.wher % 8).toNat,ω⟩;rw [hr] at fw;have hr8:r<8:=ω;obtain⟨-,-,⟨kk0,kk1⟩,-,⟨b0,b1⟩,⟨d0,d1⟩⟩:=id hf;obtain⟨t,ht⟩:∃t:Nat,f.thread % 4=t:=⟨(f.thread % 4).toNat,ω⟩;have ht4:t<4:=ω;rw [ht] at ft;obtain⟨x,hx⟩:∃x,m.thr[t]! =x:=⟨_,rfl⟩;have hxo:=mP h ht4;rw [hx] at hxo;have hrl:=hxo.2.2.2.1;have hpc:0≤x.pc∧x.pc≤255:=⟨hxo.2.2.2.2.1,hxo.2.2.2.2.2.1⟩;obtain⟨c0,c1,c2,c3⟩:=mG hxo.1 (k:=r) ω;by_cases k1:f.kind=1
 ·have ff:=xpj x.regs[r]!.val f.bit hf.bit.1 hf.bit.2
  have hv:=xpk (b:=f.bit) c2 c3;have hT:=xsj h (t:=t) (ycl hxo (r:=r) (c:=⟨x.regs[r]!.tag,wG x.regs[r]!.val f.bit⟩) ⟨c0,c1,hv⟩);generalize wG x.regs[r]!.val f.bit=w at ff hT hv;obtain⟨lay,mem,thr⟩:=m;have hm:=rE (iM true) h.mem.2.1;dsimp only at hm;obtain⟨t0,t1,t2,t3,rfl⟩:=gQ h.n;rcases(show t=0∨t=1∨t=2∨t=3 by omega) with rfl|rfl|rfl|rfl
  all_goals first|obtain rfl:x=t0:=hx.symm|obtain rfl:x=t1:=hx.symm|obtain rfl:x=t2:=hx.symm|obtain rfl:x=t3:=hx.symm
  all_goals
   simp only [List.getElem!_cons_zero,List.getElem!_cons_succ] at fc;refine⟨_,hT,?_⟩;refine uK xJ fun W S=>?_;refine dD (fc) ?_;refine zC5 fv fs ft fw ff ?_;refine tY 5 2 7 8 9 10 117 rfl rfl rfl rfl rfl (hi:=⟨rfl,rfl,rfl,rfl⟩) (h:=?_);refine tY 6 1 11 12 13 14 117 rfl rfl rfl rfl rfl (hi:=⟨rfl,rfl,rfl,rfl⟩) (h:=?_);refine aK ?_;refine ret xJ [] ?_;(first|(simp only [go_sem];done)|(simp only [go_sem];(simp only [eG,iU,dW,iM,PMach.setT,hm,List.map_set,List.map_cons,List.map_nil,List.set_cons_zero,List.set_cons_succ]<;>rfl)))
 by_cases k2:f.kind=2
 ·have fb:=xgz f.bit 2 δ
  obtain⟨d,hd⟩:∃d,f.bit % 2=d:=⟨_,rfl⟩;rw [hd] at fb;have hd2:0≤d∧d≤1:=ω;have hT:=xsj h (t:=t) (ycl hxo (r:=r) (c:=⟨(x.regs[r]!.tag+1+d) % 3,x.regs[r]!.val⟩) ⟨by show 0≤(x.regs[r]!.tag+1+d) % 3;omega,by show(x.regs[r]!.tag+1+d) % 3≤2;omega,c2,c3⟩);obtain⟨lay,mem,thr⟩:=m;have hm:=rE (iM true) h.mem.2.1;dsimp only at hm;obtain⟨t0,t1,t2,t3,rfl⟩:=gQ h.n;rcases(show t=0∨t=1∨t=2∨t=3 by omega) with rfl|rfl|rfl|rfl
  all_goals first|obtain rfl:x=t0:=hx.symm|obtain rfl:x=t1:=hx.symm|obtain rfl:x=t2:=hx.symm|obtain rfl:x=t3:=hx.symm
  all_goals
   simp only [List.getElem!_cons_zero,List.getElem!_cons_succ] at fc;refine⟨_,hT,?_⟩;refine uK xJ fun W S=>?_;refine dD (fc) ?_;refine zC5 fv fs ft fw fb ?_;refine tY 5 2 7 8 9 10 117 rfl rfl rfl rfl rfl (hi:=⟨rfl,rfl,rfl,rfl⟩) (h:=?_);refine tY 6 1 11 12 13 14 117 rfl rfl rfl rfl rfl (hi:=⟨rfl,rfl,rfl,rfl⟩) (h:=?_);refine aK ?_;refine ret xJ [] ?_;(first|(simp only [go_sem];done)|(simp only [go_sem];(simp only [eG,iU,dW,iM,PMach.setT,hm,List.map_set,List.map_cons,List.map_nil,List.set_cons_zero,List.set_cons_succ]<;>rfl)))
 by_cases k3:f.kind=3
 ·have fb:=xgz f.bit 6 δ
  obtain⟨d,hd⟩:∃d,f.bit % 6=d:=⟨_,rfl⟩;rw [hd] at fb;have hd2:0≤d∧d≤5:=ω;obtain⟨P,hP,hw⟩:∃P:Int,(0≤P∧P≤255)∧IntKind.i64.wrap (1*2 ^ d.toNat)=P:=by
   rcases(show d=0∨d=1∨d=2∨d=3∨d=4∨d=5 by omega) with e|e|e|e|e|e<;>rw [e]<;>exact⟨_,δ,rfl⟩
  have hT:=xsj h (t:=t) (ywa hxo (yr1 hpc hP));subst hw;obtain⟨lay,mem,thr⟩:=m;have hm:=rE (iM true) h.mem.2.1;dsimp only at hm;obtain⟨t0,t1,t2,t3,rfl⟩:=gQ h.n;rcases(show t=0∨t=1∨t=2∨t=3 by omega) with rfl|rfl|rfl|rfl
  all_goals first|obtain rfl:x=t0:=hx.symm|obtain rfl:x=t1:=hx.symm|obtain rfl:x=t2:=hx.symm|obtain rfl:x=t3:=hx.symm
  all_goals
   simp only [List.getElem!_cons_zero,List.getElem!_cons_succ] at fc;refine⟨_,hT,?_⟩;refine uK xJ fun W S=>?_;refine dD (fc) ?_;refine zC5 fv fs ft fw fb ?_;refine tY 5 2 7 8 9 10 117 rfl rfl rfl rfl rfl (hi:=⟨rfl,rfl,rfl,rfl⟩) (h:=?_);refine tY 6 1 11 12 13 14 117 rfl rfl rfl rfl rfl (hi:=⟨rfl,rfl,rfl,rfl⟩) (h:=?_);refine aK ?_;refine ret xJ [] ?_;(first|(simp only [go_sem];done)|(simp only [go_sem];(simp only [eG,iU,dW,iM,PMach.setT,hm,List.map_set,List.map_cons,List.map_nil,List.set_cons_zero,List.set_cons_succ]<;>rfl)))
 by_cases k6:f.kind=6
 ·skip
  obtain⟨lay,mem,thr⟩:=m;have hm:=rE (iM true) h.mem.2.1;dsimp only at hm;obtain⟨t0,t1,t2,t3,rfl⟩:=gQ h.n;rcases(show t=0∨t=1∨t=2∨t=3 by omega) with rfl|rfl|rfl|rfl
  all_goals first|obtain rfl:x=t0:=hx.symm|obtain rfl:x=t1:=hx.symm|obtain rfl:x=t2:=hx.symm|obtain rfl:x=t3:=hx.symm
  all_goals
   simp only [List.getElem!_cons_zero,List.getElem!_cons_succ] at fc;refine⟨_,h,?_⟩;refine uK xJ fun W S=>?_;refine dD (fc) ?_;refine zC4 fv fs ft fw ?_;refine tY 5 2 7 8 9 10 117 rfl rfl rfl rfl rfl (hi:=⟨rfl,rfl,rfl,rfl⟩) (h:=?_);refine tY 6 1 11 12 13 14 117 rfl rfl rfl rfl rfl (hi:=⟨rfl,rfl,rfl,rfl⟩) (h:=?_);refine aK ?_;refine ret xJ [] ?_;(first|(simp only [go_sem];done)|(simp only [go_sem];(simp only [eG,iU,dW,iM,PMach.setT,hm,List.map_set,List.map_cons,List.map_nil,List.set_cons_zero,List.set_cons_succ]<;>rfl)))
 by_cases k4:f.kind=4
 ·have hz:=xnl h.prog.sz
  have h0:=Int.emod_nonneg f.wher (show iY p.sizes≠0 by omega);have h1:=Int.emod_lt_of_pos f.wher (show 0<iY p.sizes by omega);obtain⟨⟨qr,qo⟩,hq,hi⟩:=xtw h.prog.sz h0 h1;have fT:=ywr p.sizes h.prog.sz;have fm:=xgz f.wher (iY p.sizes) hz.1;have fa:=yg6 p.sizes h.prog.sz (f.wher % iY p.sizes) h0 ω _ hq;have fd:=xtj m.lay p.sizes qr qo h.lay hi;dsimp only at hi;obtain⟨i0,i1,i2,i3⟩:=id hi;have hla:=rG h.lay (k:=qr.toNat) ω;obtain⟨a,ha⟩:∃a:Nat,m.lay.bases[qr.toNat]!+qo=a:=⟨(m.lay.bases[qr.toNat]!+qo).toNat,ω⟩;rw [ha] at fd;have ha5:a<512:=ω;have hM:=h.mem;obtain⟨m1,m2,m3,m4⟩:=id hM;obtain⟨e0,e1,e2,e3⟩:=mG m3 (k:=a) ω;have ff:=xpj m.mem.cells[a]!.val f.bit hf.bit.1 hf.bit.2;have hv:=xpk (b:=f.bit) e2 e3;have hT:=yaq h (g:=⟨m.mem.cells.set a ⟨m.mem.cells[a]!.tag,wG m.mem.cells[a]!.val f.bit⟩,m.mem.lines⟩) ⟨by show(m.mem.cells.set a _).length=512;rw [List.length_set];exact m1,m2,fun y hy=>(List.mem_or_eq_of_mem_set hy).elim (m3 y) fun e=>e▸⟨e0,e1,hv⟩,m4⟩;generalize wG m.mem.cells[a]!.val f.bit=w at ff hT hv;generalize f.wher % iY p.sizes=z at fm fa;obtain⟨lay,mem,thr⟩:=m;have hm:=rE (iM true) h.mem.2.1;dsimp only at hm;obtain⟨t0,t1,t2,t3,rfl⟩:=gQ h.n;rcases(show t=0∨t=1∨t=2∨t=3 by omega) with rfl|rfl|rfl|rfl
  all_goals first|obtain rfl:x=t0:=hx.symm|obtain rfl:x=t1:=hx.symm|obtain rfl:x=t2:=hx.symm|obtain rfl:x=t3:=hx.symm
  all_goals
   simp only [List.getElem!_cons_zero,List.getElem!_cons_succ] at fc;dsimp only at m1;refine⟨_,hT,?_⟩;refine uK xJ fun W S=>?_;refine dD (fc) ?_;refine zC6 fv fs ft fw fT fm ?_;refine wU fa fd ff ?_;refine tY 5 2 7 8 9 10 117 rfl rfl rfl rfl rfl (hi:=⟨rfl,rfl,rfl,rfl⟩) (h:=?_);refine tY 6 1 11 12 13 14 117 rfl rfl rfl rfl rfl (hi:=⟨rfl,rfl,rfl,rfl⟩) (h:=?_);refine aK ?_;refine ret xJ [] ?_;(first|(simp only [go_sem];done)|(simp only [go_sem];(simp only [eG,iU,dW,iM,PMach.setT,hm,List.map_set,List.map_cons,List.map_nil,List.set_cons_zero,List.set_cons_succ]<;>rfl)))
 have k5:f.kind=5:=ω;have fm:=xgz f.wher 16 δ;have v0:=Int.emod_nonneg f.wher (show(16:Int)≠0 by decide);have v1:=Int.emod_lt_of_pos f.wher (show(0:Int)<16 by decide);generalize f.wher % 16=v at fm v0 v1;obtain⟨i,hi⟩:∃i:Nat,v / 4=i:=⟨(v / 4).toNat,ω⟩;obtain⟨k,hk⟩:∃k:Nat,v % 4=k:=⟨(v % 4).toNat,ω⟩;have hM:=h.mem;obtain⟨m1,m2,m3,m4⟩:=id hM;have hy:=m4 i ω;obtain⟨y,hyy⟩:∃y,m.mem.lines[i]! =y:=⟨_,rfl⟩;rw [hyy] at hy;unfold lF at hy;by_cases yt:y.tag=-1
 ·skip
  obtain⟨lay,⟨cells,lines⟩,thr⟩:=m;have hm:=rE (iM true) h.mem.2.1;dsimp only at hm;obtain⟨t0,t1,t2,t3,rfl⟩:=gQ h.n;rcases(show t=0∨t=1∨t=2∨t=3 by omega) with rfl|rfl|rfl|rfl
  all_goals first|obtain rfl:x=t0:=hx.symm|obtain rfl:x=t1:=hx.symm|obtain rfl:x=t2:=hx.symm|obtain rfl:x=t3:=hx.symm
  all_goals
   simp only [List.getElem!_cons_zero,List.getElem!_cons_succ] at fc;refine⟨_,h,?_⟩;refine uK xJ fun W S=>?_;refine dD (fc) ?_;refine zC4 fv fs ft fw ?_;obtain⟨l0,l1,l2,l3,rfl⟩:=gQ m2;rcases(show(i=0∧v=k)∨(i=1∧v / 4=1)∨(i=2∧v / 4=2)∨(i=3∧v / 4=3) by omega) with ⟨rfl,rfl⟩|⟨rfl,hi⟩|⟨rfl,hi⟩|⟨rfl,hi⟩
   all_goals first|obtain rfl:y=l0:=hyy.symm|obtain rfl:y=l1:=hyy.symm|obtain rfl:y=l2:=hyy.symm|obtain rfl:y=l3:=hyy.symm
   all_goals
    simp only [List.getElem!_cons_zero,List.getElem!_cons_succ];refine aF (fm) ?_
    repeat(first|(simp only [hi,hk];try simp only [go_sem])|refine And.intro ω ?_|refine And.intro rfl ?_|refine gJ rfl rfl ?_|refine bY ?_|refine dI κ ?_|(simp (disch:=omega) only [fJ,Nat.min_eq_left,Nat.min_eq_right,if_pos,if_neg,fF,bW,dU,fH,fM,fK,aN,aJ,dB,dA,dP,dO,Int.toNat_natCast];try simp only [go_sem])|(refine dR rfl ?_ ?_;·(simp<;>omega))|(refine dZ rfl ?_ ?_;·(simp<;>omega))|((first|refine fQ ?_|refine gK rfl ?_|refine mZ rfl ?_|refine jJ aT rfl κ ?_|refine jK aT rfl κ ?_|refine jL aT rfl κ ?_);simp only [go_sem]))
    refine tY 5 2 7 8 9 10 117 rfl rfl rfl rfl rfl (hi:=⟨rfl,rfl,rfl,rfl⟩) (h:=?_);refine tY 6 1 11 12 13 14 117 rfl rfl rfl rfl rfl (hi:=⟨rfl,rfl,rfl,rfl⟩) (h:=?_);refine aK ?_;refine ret xJ [] ?_;(first|(simp only [go_sem];done)|(simp only [go_sem];(simp only [eG,iU,dW,iM,PMach.setT,hm,List.map_set,List.map_cons,List.map_nil,List.set_cons_zero,List.set_cons_succ]<;>rfl)))
 ·rw [if_neg yt] at hy
  obtain⟨y0,y1,y2,y3,y4⟩:=hy;obtain⟨e0,e1,e2,e3⟩:=mG y4 (k:=k) ω;have ff:=xpj y.cells[k]!.val f.bit hf.bit.1 hf.bit.2;have hv:=xpk (b:=f.bit) e2 e3;have hL:lF i {y with cells:=y.cells.set k ⟨y.cells[k]!.tag,wG y.cells[k]!.val f.bit⟩}:=by
   unfold lF;rw [if_neg yt];exact⟨y0,y1,y2,by show(y.cells.set k _).length=4;rw [List.length_set];exact y3,fun z hz=>(List.mem_or_eq_of_mem_set hz).elim (y4 z) fun e=>e▸⟨e0,e1,hv⟩⟩
  have hT:=yaq h (g:=⟨m.mem.cells,m.mem.lines.set i {y with cells:=y.cells.set k ⟨y.cells[k]!.tag,wG y.cells[k]!.val f.bit⟩}⟩) ⟨m1,by show(m.mem.lines.set i _).length=4;rw [List.length_set];exact m2,m3,fun j hj=>by
   show lF j (m.mem.lines.set i _)[j]!;by_cases e:i=j
   ·subst e
    rw [getElem!_pos _ i (by rw [List.length_set];omega),List.getElem_set_self];exact hL
   ·rw [getElem!_pos _ j (by rw [List.length_set];omega),List.getElem_set_ne e,←getElem!_pos]
    exact m4 j hj⟩
  generalize wG y.cells[k]!.val f.bit=w at ff hT hv;clear hL;obtain⟨lay,⟨cells,lines⟩,thr⟩:=m;have hm:=rE (iM true) h.mem.2.1;dsimp only at hm;obtain⟨t0,t1,t2,t3,rfl⟩:=gQ h.n;rcases(show t=0∨t=1∨t=2∨t=3 by omega) with rfl|rfl|rfl|rfl
  all_goals first|obtain rfl:x=t0:=hx.symm|obtain rfl:x=t1:=hx.symm|obtain rfl:x=t2:=hx.symm|obtain rfl:x=t3:=hx.symm
  all_goals
   simp only [List.getElem!_cons_zero,List.getElem!_cons_succ] at fc;refine⟨_,hT,?_⟩;refine uK xJ fun W S=>?_;refine dD (fc) ?_;refine zC4 fv fs ft fw ?_;obtain⟨l0,l1,l2,l3,rfl⟩:=gQ m2;rcases(show(i=0∧v=k)∨(i=1∧v / 4=1)∨(i=2∧v / 4=2)∨(i=3∧v / 4=3) by omega) with ⟨rfl,rfl⟩|⟨rfl,hi⟩|⟨rfl,hi⟩|⟨rfl,hi⟩
   all_goals first|obtain rfl:y=l0:=hyy.symm|obtain rfl:y=l1:=hyy.symm|obtain rfl:y=l2:=hyy.symm|obtain rfl:y=l3:=hyy.symm
   all_goals
    simp only [List.getElem!_cons_zero,List.getElem!_cons_succ];refine aF (fm) ?_
    repeat(first|(simp only [hi,hk];try simp only [go_sem])|refine And.intro ω ?_|refine And.intro rfl ?_|refine gJ rfl rfl ?_|refine bY ?_|refine dI κ ?_|(simp (disch:=omega) only [fJ,Nat.min_eq_left,Nat.min_eq_right,if_pos,if_neg,fF,bW,dU,fH,fM,fK,aN,aJ,dB,dA,dP,dO,Int.toNat_natCast];try simp only [go_sem])|(refine dR rfl ?_ ?_;·(simp<;>omega))|(refine dZ rfl ?_ ?_;·(simp<;>omega))|((first|refine fQ ?_|refine gK rfl ?_|refine mZ rfl ?_|refine jJ aT rfl κ ?_|refine jK aT rfl κ ?_|refine jL aT rfl κ ?_);simp only [go_sem]))
    refine aF (ff) ?_;refine tY 5 2 7 8 9 10 117 rfl rfl rfl rfl rfl (hi:=⟨rfl,rfl,rfl,rfl⟩) (h:=?_);refine tY 6 1 11 12 13 14 117 rfl rfl rfl rfl rfl (hi:=⟨rfl,rfl,rfl,rfl⟩) (h:=?_);refine aK ?_;refine ret xJ [] ?_;(first|(simp only [go_sem];done)|(simp only [go_sem];(simp only [eG,iU,dW,iM,PMach.setT,hm,List.map_set,List.map_cons,List.map_nil,List.set_cons_zero,List.set_cons_succ]<;>rfl)))
def xiw:=aC 43
def xiv:=aC 161
def yoj:=aC 106
def xe6:=aC 45
def xzy:=aC 44
def xiz:=aC 47
def xj0:=aC 48
def xll:=aC 17
theorem xi4 (a b:List Canon):Fnc Tryz.prog 43 [.sl false 4 (a.map aS),.sl false 4 (b.map aS)] (fun x obs=>x=.bool (decide (a=b))∧obs=[]):=by
 refine Fnc.wf fun hw=>?_;simp only [V.wfs,V.wf,lW,List.length_map] at hw;have hm:=hw.1.2;have hm':=hw.2.1.2;by_cases hl:a.length=b.length
 ·skip
  refine aI xiw fun W S=>?_;refine bI [0,1,12] (fun p:{p:Nat // p≤a.length∧a.take p=b.take p}=>[(13,.int .i64 p.1)]) (fun _=>[]) (fun p=>a.length-p.1) (⟨0,by simp⟩) 0 ?_;intro J hJ
  rintro⟨k,hk0,hk1⟩
  by_cases hlt:k<a.length
  ·by_cases e:a[k]! =b[k]!
   ·skip
    refine aA ?_;exact nP (hJ _ (⟨k+1,hlt,by rw [jG hlt,jG ω,hk1,e]⟩) ψ) hlt
   ·have hne:a≠b:=fun h=>e (xem h k)
    refine aA ?_;refine ret xiw [] ?_;(first|(simp only [go_sem];done)|(simp only [go_sem];exact⟨rfl,rfl⟩))
  ·have hab:=xeu ω ω hk1
   refine aA ?_;refine ret xiw [] ?_;(first|(simp only [go_sem];done)|(simp only [go_sem];exact⟨rfl,rfl⟩))
 ·have hne:a≠b:=fun h=>hl (by rw [h])
  refine aI xiw fun W S=>?_;refine ret xiw [] ?_;(first|(simp only [go_sem];done)|(simp only [go_sem];exact⟨rfl,rfl⟩))
theorem yjw (a b:List Cell):Fnc Tryz.prog 161 [.sl false 2 (a.map bC),.sl false 2 (b.map bC)] (fun x obs=>x=.bool (decide (a=b))∧obs=[]):=by
 refine Fnc.wf fun hw=>?_;simp only [V.wfs,V.wf,lW,List.length_map] at hw;have hm:=hw.1.2;have hm':=hw.2.1.2;by_cases hl:a.length=b.length
 ·skip
  refine aI xiv fun W S=>?_;refine bI [0,1,12] (fun p:{p:Nat // p≤a.length∧a.take p=b.take p}=>[(13,.int .i64 p.1)]) (fun _=>[]) (fun p=>a.length-p.1) (⟨0,by simp⟩) 0 ?_;intro J hJ
  rintro⟨k,hk0,hk1⟩
  by_cases hlt:k<a.length
  ·by_cases e:a[k]! =b[k]!
   ·skip
    refine aA ?_;exact nP (hJ _ (⟨k+1,hlt,by rw [jG hlt,jG ω,hk1,e]⟩) ψ) hlt
   ·have hne:a≠b:=fun h=>e (xem h k)
    refine aA ?_;refine ret xiv [] ?_;(first|(simp only [go_sem];done)|(simp only [go_sem];exact⟨rfl,rfl⟩))
  ·have hab:=xeu ω ω hk1
   refine aA ?_;refine ret xiv [] ?_;(first|(simp only [go_sem];done)|(simp only [go_sem];exact⟨rfl,rfl⟩))
 ·have hne:a≠b:=fun h=>hl (by rw [h])
  refine aI xiv fun W S=>?_;refine ret xiv [] ?_;(first|(simp only [go_sem];done)|(simp only [go_sem];exact⟨rfl,rfl⟩))
theorem yxq (a b:List Cell):Fnc Tryz.prog 106 [.sl false 2 (a.map bC),.sl false 2 (b.map bC)] (fun x obs=>x=.bool (decide (a=b))∧obs=[]):=by
 exact eY yoj (yjw a b)
theorem yc0:∀a b:List Int,∃k,k≤a.length∧k≤b.length∧(∀i,i<k→a[i]! =b[i]!)∧(k<a.length→k<b.length→a[k]!≠b[k]!)
 |[],b=>⟨0,by simp,by simp,by simp,by simp⟩
 |_::_,[]=>⟨0,by simp,by simp,by simp,by simp⟩
 |x::a,y::b=>by
  by_cases e:x=y
  ·obtain⟨k,h1,h2,h3,h4⟩:=yc0 a b
   refine⟨k+1,by simpa using h1,by simpa using h2,fun i hi=>?_,fun p q=>by simpa using h4 (by simpa using p) (by simpa using q)⟩;cases i with
   |zero=>simpa using e
   |succ i=>simpa using h3 i ω
  ·exact⟨0,by simp,by simp,by simp,fun _ _=>by simpa using e⟩
theorem yhb (a b:List Int) (hm:a.length≤1000000000) (hm':b.length≤1000000000):∃r:Int,(r=-1↔a=b)∧Fnc Tryz.prog 17 [.sl false 1 (nO a),.sl false 1 (nO b)] (fun x obs=>x=.int .i64 r∧obs=[]):=by
 obtain⟨m,hE,ma,mb,mm⟩:∃m:Nat,(if(b.length:Int)<(a.length:Int) then(b.length:Int) else(a.length:Int))=m∧m≤a.length∧m≤b.length∧(m=a.length∨m=b.length):=by
  by_cases c:(b.length:Int)<(a.length:Int)
  ·exact⟨b.length,if_pos c,ω,ω,.inr rfl⟩
  ·exact⟨a.length,if_neg c,ω,ω,.inl rfl⟩
 obtain⟨K,k1,k2,k3,k4⟩:=yc0 a b;have hab:a=b↔K=a.length∧K=b.length:=⟨fun e=>by subst e;exact(Classical.em (K=a.length)).elim (fun c=>⟨c,c⟩) fun c=>absurd rfl (k4 ω ω),fun h=>by
  refine List.ext_getElem ω fun i hi hj=>?_;have:=k3 i ω
  rwa [getElem!_pos a i hi,getElem!_pos b i hj] at this⟩
 obtain⟨r,hr,hr1,hr2⟩:∃r:Int,(r=-1↔a=b)∧(K=a.length→K=b.length→r=-1)∧(¬(K=a.length∧K=b.length)→r=K):=by
  rw [hab];by_cases c:K=a.length∧K=b.length
  ·exact⟨-1,⟨fun _=>c,fun _=>rfl⟩,fun _ _=>rfl,fun h=>absurd c h⟩
  ·exact⟨K,⟨fun h=>by omega,fun h=>absurd h c⟩,fun h1 h2=>absurd ⟨h1,h2⟩ c,fun _=>rfl⟩
 refine⟨r,hr,?_⟩;clear hab hr;refine aI xll fun W S=>?_;simp only [hE];refine bI [0,1,10] (fun p:{p:Nat // p≤K}=>[(11,.int .i64 p.1)]) (fun _=>[]) (fun p=>K-p.1) (⟨0,by simp⟩) 0 ?_;intro J hJ
 rintro⟨k,hk0⟩
 by_cases hlt:k<K
 ·have e:=k3 k hlt
  refine aA ?_;exact nP (hJ _ (⟨k+1,hlt⟩) ψ) hlt
 obtain rfl:k=K:=ω;by_cases hkm:k<m
 ·have e:=k4 ω ω
  have hr3:=hr2 ω;refine aA ?_;exact aX xll hr3
 obtain rfl:k=m:=ω;by_cases el:a.length=b.length
 ·have hr3:=hr1 ω ω
  refine aA ?_;exact aX xll hr3
 ·have hr3:=hr2 ω
  refine aY hE ?_;exact aX xll hr3
def wQ (a b:PThr):Prop:=a.state=b.state∧a.pc=b.pc∧a.count=b.count∧a.handler=b.handler∧a.saved=b.saved∧a.trap=b.trap∧a.code=b.code∧a.regs=b.regs
instance (a b:PThr):Decidable (wQ a b):=by unfold wQ;exact inferInstance
theorem ywv (a b:PThr):Fnc Tryz.prog 45 [dW false a,dW false b] (fun x obs=>x=.bool (decide (wQ a b))∧obs=[]):=by
 have fr:=yxq a.regs b.regs;by_cases c0:a.state=b.state;rotate_left
 ·rw [aJ (fun h:wQ a b=>c0 h.1)]
  exact aZ xe6
 by_cases c1:a.pc=b.pc;rotate_left
 ·rw [aJ (fun h:wQ a b=>c1 h.2.1)]
  exact aZ xe6
 by_cases c2:a.count=b.count;rotate_left
 ·rw [aJ (fun h:wQ a b=>c2 h.2.2.1)]
  exact aZ xe6
 by_cases c3:a.handler=b.handler;rotate_left
 ·rw [aJ (fun h:wQ a b=>c3 h.2.2.2.1)]
  exact aZ xe6
 by_cases c4:a.saved=b.saved;rotate_left
 ·rw [aJ (fun h:wQ a b=>c4 h.2.2.2.2.1)]
  exact aZ xe6
 by_cases c5:a.trap=b.trap;rotate_left
 ·rw [aJ (fun h:wQ a b=>c5 h.2.2.2.2.2.1)]
  exact aZ xe6
 by_cases c6:a.code=b.code;rotate_left
 ·rw [aJ (fun h:wQ a b=>c6 h.2.2.2.2.2.2.1)]
  exact aZ xe6
 have hd:decide (wQ a b)=decide (a.regs=b.regs):=by
  by_cases c:a.regs=b.regs
  ·rw [aN c,aN (p:=wQ a b) ⟨c0,c1,c2,c3,c4,c5,c6,c⟩]
  ·rw [aJ c,aJ (fun h:wQ a b=>c h.2.2.2.2.2.2.2)]
 rw [hd];exact eY xe6 fr
theorem yx6 {v w:View} (h:wQ (wV v) (wV w)) (hr:v.regs=w.regs):v=w:=by
 obtain⟨h1,h2,h3,h4,h5,h6,h7,-⟩:=h;cases v;cases w;simp only [wV] at h1 h2 h3 h4 h5 h6 h7 hr;subst h1 h2 h3 h4 h5 h6 h7 hr;rfl
theorem xna (v w:View):Fnc Tryz.prog 44 [oG false v,oG false w] (fun x obs=>x=.bool (decide (v=w))∧obs=[]):=by
 have f1:=xo6 v;have f2:=xo6 w;have f3:=ywv (wV v) (wV w);have f4:=xi4 v.regs w.regs;by_cases c:wQ (wV v) (wV w)
 ·rw [aN c] at f3
  have hd:decide (v=w)=decide (v.regs=w.regs):=by
   by_cases e:v.regs=w.regs
   ·rw [aN e,aN (yx6 c e)]
   ·rw [aJ e,aJ (fun h=>e (by rw [h]))]
  rw [hd];exact zG4 xzy f1 f2 f3 f4
 ·rw [aJ c] at f3
  rw [aJ (fun h=>c (by rw [h];exact⟨rfl,rfl,rfl,rfl,rfl,rfl,rfl,rfl⟩))];exact zG3 xzy f1 f2 f3
def xm1:=aC 15
theorem yjy (a b:List (List Canon)):Fnc Tryz.prog 47 [.sl false 1 (a.map (bD false 4 aS)),.sl false 1 (b.map (bD false 4 aS)),.fn 43] (fun x obs=>x=.bool (decide (a=b))∧obs=[]):=by
 refine Fnc.wf fun hw=>?_;simp only [V.wfs,V.wf,List.length_map] at hw;have hm:=hw.1.2;have hm':=hw.2.1.2;clear hw;by_cases hl:a.length=b.length
 ·skip
  refine aI xiz fun W S=>?_;refine bI [1,2,15,16] (fun p:{p:Nat // p≤a.length∧a.take p=b.take p}=>[(17,.int .i64 p.1)]) (fun _=>[]) (fun p=>a.length-p.1) (⟨0,by simp⟩) 0 ?_;intro J hJ
  rintro⟨k,hk0,hk1⟩
  by_cases hlt:k<a.length
  ·by_cases e:a[k]! =b[k]!
   ·have hd:decide (a[k]! =b[k]!)=true:=aN e
    refine aA ?_
    (first|refine xdm (xi4 a[k]! b[k]!) κ rfl ?_|refine xhu (xi4 a[k]! b[k]!) κ rfl ?_);simp only [go_sem,hd]
    refine aA ?_;exact nP (hJ _ (⟨k+1,hlt,by rw [jG hlt,jG ω,hk1,e]⟩) ψ) hlt
   ·have hne:a≠b:=fun h=>e (xem h k)
    have hd:decide (a[k]! =b[k]!)=false:=aJ e;have hr:decide (a=b)=false:=aJ hne;refine aA ?_
    (first|refine xdm (xi4 a[k]! b[k]!) κ rfl ?_|refine xhu (xi4 a[k]! b[k]!) κ rfl ?_);simp only [go_sem,hd]
    refine aA ?_;exact aX xiz hr
  ·have hab:=xeu ω ω hk1
   have hr:decide (a=b)=true:=aN hab;refine aA ?_;exact aX xiz hr
 ·have hne:a≠b:=fun h=>hl (by rw [h])
  have hr:decide (a=b)=false:=aJ hne;refine aI xiz fun W S=>?_;exact aX xiz hr
theorem yk1 (a b:List View):Fnc Tryz.prog 48 [.sl false 8 (a.map (oG false)),.sl false 8 (b.map (oG false)),.fn 44] (fun x obs=>x=.bool (decide (a=b))∧obs=[]):=by
 refine Fnc.wf fun hw=>?_;simp only [V.wfs,V.wf,List.length_map] at hw;have hm:=hw.1.2;have hm':=hw.2.1.2;clear hw;by_cases hl:a.length=b.length
 ·skip
  refine aI xj0 fun W S=>?_;refine bI [1,2,15,16] (fun p:{p:Nat // p≤a.length∧a.take p=b.take p}=>[(17,.int .i64 p.1)]) (fun _=>[]) (fun p=>a.length-p.1) (⟨0,by simp⟩) 0 ?_;intro J hJ
  rintro⟨k,hk0,hk1⟩
  by_cases hlt:k<a.length
  ·by_cases e:a[k]! =b[k]!
   ·have hd:decide (a[k]! =b[k]!)=true:=aN e
    refine aA ?_
    (first|refine xdm (xna a[k]! b[k]!) κ rfl ?_|refine xhu (xna a[k]! b[k]!) κ rfl ?_);simp only [go_sem,hd]
    refine aA ?_;exact nP (hJ _ (⟨k+1,hlt,by rw [jG hlt,jG ω,hk1,e]⟩) ψ) hlt
   ·have hne:a≠b:=fun h=>e (xem h k)
    have hd:decide (a[k]! =b[k]!)=false:=aJ e;have hr:decide (a=b)=false:=aJ hne;refine aA ?_
    (first|refine xdm (xna a[k]! b[k]!) κ rfl ?_|refine xhu (xna a[k]! b[k]!) κ rfl ?_);simp only [go_sem,hd]
    refine aA ?_;exact aX xj0 hr
  ·have hab:=xeu ω ω hk1
   have hr:decide (a=b)=true:=aN hab;refine aA ?_;exact aX xj0 hr
 ·have hne:a≠b:=fun h=>hl (by rw [h])
  have hr:decide (a=b)=false:=aJ hne;refine aI xj0 fun W S=>?_;exact aX xj0 hr
theorem yvn {a b:State} (h:a.regions=b.regions) (k:a.threads=b.threads):a=b:=by
 cases a;cases b;simp only at h k;subst h k;rfl
theorem ydh (a b:State):Fnc Tryz.prog 15 [qG a,qG b] (fun x obs=>∃r:Bool,(r=true↔a=b)∧x=.bool r∧obs=[]):=by
 have f1:=yjy a.regions b.regions;have f2:=yk1 a.threads b.threads;by_cases h:a.regions=b.regions
 ·rw [aN h] at f1
  refine qK xm1 f1 f2 fun W S=>?_;refine ret xm1 [] ?_;(first|(simp only [go_sem];done)|(simp only [go_sem];(exact⟨decide (a.threads=b.threads),⟨fun e=>yvn h (of_decide_eq_true e),fun e=>by rw [e];exact aN rfl⟩,(by first|rfl|simp only [go_sem]|(simp only [go_sem];rfl))⟩)))
 ·rw [aJ h] at f1
  refine iR xm1 f1 fun W S=>?_;refine ret xm1 [] ?_;(first|(simp only [go_sem];done)|(simp only [go_sem];(exact⟨false,⟨fun e=>absurd e δ,fun e=>absurd (by rw [e]) h⟩,(by first|rfl|simp only [go_sem]|(simp only [go_sem];rfl))⟩)))
end Go.Proofs.YthmjocibdepahaaGreat
