import Derived.Test.YthmjocibdepahaaGreatA10
set_option linter.defProp false
set_option linter.unusedSimpArgs false
set_option linter.unusedVariables false
set_option maxHeartbeats 64000000
set_option maxRecDepth 100000
namespace Go.Proofs.YthmjocibdepahaaGreat
open Go Go.RowKit Rdn Rdn.Dp
def ynr:=aC 231
def xy0:=aC 230
def xzh:=aC 211
def xy9:=aC 142
def yae:=aC 212
def xze:=aC 194
def xj3:=aC 124
def xli:=aC 218
def yoe:=aC 192
def xj2:=aC 186
theorem xv2 (c:Cell) (h:iW c):Fnc Tryz.prog 231 [bC c] (fun x obs=>x=.bool true∧obs=[]):=by
 obtain⟨t,v⟩:=c;obtain⟨h0,h1,h2,h3⟩:=h;dsimp only at h0 h1 h2 h3;exact aZ ynr
theorem xtm (l:List Cell) (h:nX l) (hb:l.length≤1000):Fnc Tryz.prog 230 [.sl false 2 (l.map bC)] (fun x obs=>x=.bool true∧obs=[]):=by
 refine aI xy0 fun W S=>?_;refine bI [5,6] (fun p:{p:Nat // p≤l.length}=>[(7,.int .i64 p.1)]) (fun _=>[]) (fun p=>l.length-p.1) (⟨0,by simp⟩) 0 ?_;intro J hJ
 rintro⟨k,hk0⟩
 by_cases hlt:k<l.length
 ·have f:=xv2 l[k]! (mG h hlt)
  refine aA ?_;refine aF (f) ?_;exact nP (hJ _ (⟨k+1,hlt⟩) ψ) hlt
 obtain rfl:k=l.length:=ω;refine aA ?_;exact aU xy0
theorem yp9 (m:PMem) (h:nJ m):Fnc Tryz.prog 211 [iU false m] (fun x obs=>x=.bool true∧obs=[]):=by
 obtain⟨h1,h2,h3,h4⟩:=h;have f:=xtm m.cells h3 ω;refine iR xzh f fun W S=>?_;refine bI [22,23] (fun p:{p:Nat // p≤m.lines.length}=>[(24,.int .i64 p.1)]) (fun _=>[⟨.box false 37,true,0,iU false m⟩]) (fun p=>m.lines.length-p.1) (⟨0,by simp⟩) 1 ?_;intro J hJ
 rintro⟨k,hk0⟩
 by_cases hlt:k<m.lines.length
 ·have hl:=h4 k ω
  unfold lF at hl;by_cases c:m.lines[k]!.tag=-1
  ·rw [if_pos c] at hl
   obtain⟨l1,l2⟩:=hl;have l3:m.lines[k]!.cells.length=0:=by rw [l2];rfl
   repeat(first|(simp only [c,l1];try simp only [go_sem])|refine And.intro ω ?_|refine And.intro rfl ?_|refine gJ rfl rfl ?_|refine bY ?_|refine dI κ ?_|(simp (disch:=omega) only [fJ,Nat.min_eq_left,Nat.min_eq_right,if_pos,if_neg,fF,bW,dU,fH,fM,fK,aN,aJ,dB,dA,dP,dO,Int.toNat_natCast];try simp only [go_sem])|(refine dR rfl ?_ ?_;·(simp<;>omega))|(refine dZ rfl ?_ ?_;·(simp<;>omega))|((first|refine fQ ?_|refine gK rfl ?_|refine mZ rfl ?_|refine jJ aT rfl κ ?_|refine jK aT rfl κ ?_|refine jL aT rfl κ ?_);simp only [go_sem]))
   exact jH (hJ _ (⟨k+1,hlt⟩) ψ) hlt
  ·rw [if_neg c] at hl
   obtain⟨l1,l2,l3,l4,l5⟩:=hl;have g:=xtm m.lines[k]!.cells l5 ω;refine aA ?_;refine aF (g) ?_;exact jH (hJ _ (⟨k+1,hlt⟩) ψ) hlt
 obtain rfl:k=m.lines.length:=ω;refine aA ?_;exact aU xzh
theorem ywx (x:PThr) (h:okThr 1099511627776 x):Fnc Tryz.prog 212 [dW false x] (fun y obs=>y=.bool true∧obs=[]):=by
 obtain⟨h1,h2,h3,h4,h5,h6,h7,h8,h9,h10,h11,h12,h13,h14⟩:=h;refine aI yae fun W S=>?_;refine bI [1,6,7] (fun p:{p:Nat // p≤x.regs.length}=>[(8,.int .i64 p.1)]) (fun _=>[⟨.box false 113,true,0,dW false x⟩]) (fun p=>x.regs.length-p.1) (⟨0,by simp⟩) 1 ?_;intro J hJ
 rintro⟨k,hk0⟩
 by_cases hlt:k<x.regs.length
 ·have f:=xv2 x.regs[k]! (mG h1 hlt)
  refine aA ?_;refine aF (f) ?_;exact jH (hJ _ (⟨k+1,hlt⟩) ψ) hlt
 obtain rfl:k=x.regs.length:=ω;refine aA ?_;exact aU yae
theorem xcs (op:Int):Fnc Tryz.prog 124 [.int .i64 op] (fun x obs=>x=.bool (decide (eF op))∧obs=[]):=by
 by_cases h:eF op
 ·rw [aN h]
  rcases h with rfl|rfl|rfl|rfl
  ·skip
   exact aZ xj3
  ·skip
   exact aZ xj3
  ·skip
   exact aZ xj3
  ·skip
   exact aZ xj3
 ·rw [aJ h]
  unfold eF at h;exact aZ xj3
theorem ygf (op:Int):Fnc Tryz.prog 218 [.int .i64 op] (fun x obs=>x=.bool (decide (kW op))∧obs=[]):=by
 have f:=xcs op;by_cases h:eF op
 ·rw [aN h] at f
  rw [aN (p:=kW op) (Or.inl h)];exact eY xli f
 ·rw [aJ h] at f
  by_cases h2:op=22
  ·rw [aN (p:=kW op) (Or.inr (Or.inl h2))]
   exact eY xli f
  by_cases h3:op=24
  ·rw [aN (p:=kW op) (Or.inr (Or.inr h3))]
   exact eY xli f
  ·rw [aJ (p:=kW op) (fun q=>q.elim h (fun q=>q.elim h2 h3))]
   exact eY xli f
theorem ybi {c:Int} (h0:0≤c) (h1:c≤24):c=0∨c=1∨c=2∨c=3∨c=4∨c=5∨c=6∨c=7∨c=8∨c=9∨c=10∨c=11∨c=12∨c=13∨c=14∨c=15∨c=16∨c=17∨c=18∨c=19∨c=20∨c=21∨c=22∨c=23∨c=24:=ω
theorem yf1 (op:Int) (h0:0≤op) (h1:op≤24):Fnc Tryz.prog 192 [.int .i64 op] (fun x obs=>x=.arr 1 ((kC op).map V.bool)∧obs=[]):=by
 rcases ybi h0 h1 with rfl|rfl|rfl|rfl|rfl|rfl|rfl|rfl|rfl|rfl|rfl|rfl|rfl|rfl|rfl|rfl|rfl|rfl|rfl|rfl|rfl|rfl|rfl|rfl|rfl<;>clear h0 h1
 all_goals
  exact aZ yoe
theorem yf2 (op:Int):∃u0 u1 u2 u3,kC op=[u0,u1,u2,u3]:=by
 unfold kC
 repeat' split
 all_goals exact⟨_,_,_,_,rfl⟩
theorem ymg (i:PInstr) (h:xjd i):Fnc Tryz.prog 186 [nT i] (fun x obs=>x=.bool true∧obs=[]):=by
 obtain⟨h0,h1,⟨a0,a1,a2⟩,⟨b0,b1,b2⟩,⟨c0,c1,c2⟩,⟨d0,d1,d2⟩,hj,hl,hs⟩:=h;obtain⟨op,a,b,c,imm⟩:=i;dsimp only at h0 h1 a0 a1 a2 b0 b1 b2 c0 c1 c2 d0 d1 d2 hj hl hs;have f:=yf1 op h0 h1;have g:=xcs op;obtain⟨u0,u1,u2,u3,hu⟩:=yf2 op;rw [hu] at f a2 b2 c2 d2;simp only [List.getElem!_cons_zero,List.getElem!_cons_succ] at a2 b2 c2 d2;simp only [List.map_cons,List.map_nil] at f;have e0:u0=true∨u0=false∧a=0:=by cases u0 with
  |true=>exact Or.inl rfl
  |false=>exact Or.inr ⟨rfl,a2 rfl⟩
 have e1:u1=true∨u1=false∧b=0:=by cases u1 with
  |true=>exact Or.inl rfl
  |false=>exact Or.inr ⟨rfl,b2 rfl⟩
 have e2:u2=true∨u2=false∧c=0:=by cases u2 with
  |true=>exact Or.inl rfl
  |false=>exact Or.inr ⟨rfl,c2 rfl⟩
 have e3:u3=true∨u3=false∧imm=0:=by cases u3 with
  |true=>exact Or.inl rfl
  |false=>exact Or.inr ⟨rfl,d2 rfl⟩
 clear hu a2 b2 c2 d2;rcases e0 with rfl|⟨rfl,rfl⟩<;>rcases e1 with rfl|⟨rfl,rfl⟩<;>rcases e2 with rfl|⟨rfl,rfl⟩<;>rcases e3 with rfl|⟨rfl,rfl⟩
 all_goals
  refine iR xj2 f fun W S=>?_;refine fU 4 ?_;refine aA ?_;by_cases j:eF op
  ·rw [aN j] at g
   have j1:=hj j;exact qV g xj2
  ·rw [aJ j] at g
   by_cases k1:op=15
   ·have j1:=hl k1
    exact qV g xj2
   by_cases k2:op=23
   ·have j1:=hs k2
    exact qV g xj2
   exact qV g xj2
theorem xoo (p:PProg) (h:okProg p):Fnc Tryz.prog 142 [dM false p] (fun x obs=>x=.int .i64 0∧obs=[]):=by
 obtain⟨h1,h2,h3,h4,h5,h6⟩:=h;have f:=xt3 p.sizes h1;have hs4:=h1.2.2;refine iR xy9 f fun W S=>?_;refine bI [1,23,24] (fun q:{q:Nat // q≤p.data.length}=>[(25,.int .i64 q.1)]) (fun _=>[⟨.box false 30,true,0,dM false p⟩]) (fun q=>p.data.length-q.1) (⟨0,by simp⟩) 1 ?_;intro J hJ
 rintro⟨k,hk0⟩
 by_cases hlt:k<p.data.length
 ·have h7:=h3 k ω
  refine aA ?_;exact jH (hJ _ (⟨k+1,hlt⟩) ψ) hlt
 obtain rfl:k=p.data.length:=ω;refine aA ?_;refine bI [1,50,51] (fun q:{q:Nat // q≤p.code.length}=>[(52,.int .i64 q.1)]) (fun _=>[⟨.box false 30,true,0,dM false p⟩]) (fun q=>p.code.length-q.1) (⟨0,by simp⟩) 1 ?_;intro J hJ
 rintro⟨k,hk0⟩
 by_cases hlt:k<p.code.length
 ·have g:=ymg p.code[k]! (xg4 ⟨h1,h2,h3,h4,h5,h6⟩ hlt).1
  refine aA ?_;refine aF (g) ?_;exact jH (hJ _ (⟨k+1,hlt⟩) ψ) hlt
 obtain rfl:k=p.code.length:=ω;refine aA ?_;refine bI [1,61,62] (fun q:{q:Nat // q≤p.code.length}=>[(63,.int .i64 q.1)]) (fun _=>[⟨.box false 30,true,0,dM false p⟩]) (fun q=>p.code.length-q.1) (⟨0,by simp⟩) 1 ?_;intro J hJ
 rintro⟨k,hk0⟩
 by_cases hlt:k<p.code.length
 ·obtain⟨-,g1,g2⟩:=xg4 ⟨h1,h2,h3,h4,h5,h6⟩ hlt
  have g:=xcs p.code[k]!.op;by_cases j:eF p.code[k]!.op
  ·rw [aN j] at g
   have j1:=g1 j;have j2:p.code[k]!.op≠15:=by unfold eF at j;omega
   refine aA ?_;refine aF (g) ?_;exact jH (hJ _ (⟨k+1,hlt⟩) ψ) hlt
  ·rw [aJ j] at g
   by_cases c:p.code[k]!.op=15
   ·have j1:=g2 c
    refine aA ?_;refine aF (g) ?_;exact jH (hJ _ (⟨k+1,hlt⟩) ψ) hlt
   ·refine aA ?_
    refine aF (g) ?_;exact jH (hJ _ (⟨k+1,hlt⟩) ψ) hlt
 obtain rfl:k=p.code.length:=ω;refine aA ?_;exact aU xy9
theorem xm7 (p:PProg) (m:PMach) (h:okMach p 1099511627776 m):Fnc Tryz.prog 194 [dM false p,eG false m] (fun x obs=>x=.bool true∧obs=[]):=by
 have f1:=xoo p h.prog;have f2:=xlb m.lay p.sizes h.lay;have f3:=yp9 m.mem h.mem;have h4:=h.n;refine zH3 xze f1 f2 f3 fun W S=>?_;refine bI [31,32] (fun q:{q:Nat // q≤m.thr.length}=>[(33,.int .i64 q.1)]) (fun _=>[⟨.box false 30,true,0,dM false p⟩,⟨.box false 40,true,0,eG false m⟩]) (fun q=>m.thr.length-q.1) (⟨0,by simp⟩) 2 ?_;intro J hJ
 rintro⟨k,hk0⟩
 by_cases hlt:k<m.thr.length
 ·have g:=ywx m.thr[k]! (mP h ω)
  refine aA ?_;refine aF (g) ?_;exact vW (hJ _ (⟨k+1,hlt⟩) ψ) hlt
 obtain rfl:k=m.thr.length:=ω;refine aA ?_;exact aU xze
end Go.Proofs.YthmjocibdepahaaGreat
