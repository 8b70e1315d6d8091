import Derived.Test.YtbgpfigkcpmnfaaGreatA8
import Derived.Test.YtbgpfigkcpmnfaaGreatA10
import Derived.Test.YtbgpfigkcpmnfaaGreatA6
set_option linter.unusedSimpArgs false
set_option linter.unusedVariables false
set_option maxHeartbeats 64000000
set_option maxRecDepth 100000
namespace Go.Proofs.YtbgpfigkcpmnfaaGreat
open Go Go.RowKit Rdn Rdn.Dp
theorem xx8 (c:Cell) (h:xbh c):Fnc Tryz.prog 136 [xau c] (fun x obs=>x=.bool true∧obs=[]):=by
 refine zcf Tryz.prog 136 fun mz=>?_;obtain⟨t,v⟩:=c;obtain⟨h0,h1,h2,h3⟩:=h;dsimp only at h0 h1 h2 h3;refine zgo mz fun W S=>?_;exact zrt mz
theorem ye6 (l:List Cell) (h:xd5 l) (hb:l.length≤1000):Fnc Tryz.prog 135 [.sl false 2 (l.map xau)] (fun x obs=>x=.bool true∧obs=[]):=by
 refine zcf Tryz.prog 135 fun mz=>?_;refine zgo mz fun W S=>?_;refine zlk [5,6] (fun p:{p:Nat // p≤l.length}=>[(7,.int .i64 p.1)]) (fun _=>[]) (fun p=>l.length-p.1) (⟨0,by simp⟩) 0 ?_;intro J hJ
 rintro⟨k,hk0⟩
 by_cases hlt:k<l.length
 ·have f:=xx8 l[k]! (xb3 h hlt)
  refine zst ?_;refine zcd (f) ?_;exact zn0 (hJ _ (⟨k+1,hlt⟩) (by first|omega|(dsimp only;omega)|(simp;omega))) hlt
 obtain rfl:k=l.length:=by omega
 refine zst ?_;exact zrt mz
theorem ygr (m:PMem) (h:xfi m):Fnc Tryz.prog 115 [memV false m] (fun x obs=>x=.bool true∧obs=[]):=by
 refine zcf Tryz.prog 115 fun mz=>?_;obtain⟨h1,h2,h3,h4⟩:=h;have f:=ye6 m.cells h3 (by omega);refine zgo mz fun W S=>?_;refine zcd (f) ?_;refine zlk [22,23] (fun p:{p:Nat // p≤m.lines.length}=>[(24,.int .i64 p.1)]) (fun _=>[⟨.box false 36,true,0,memV false m⟩]) (fun p=>m.lines.length-p.1) (⟨0,by simp⟩) 1 ?_;intro J hJ
 rintro⟨k,hk0⟩
 by_cases hlt:k<m.lines.length
 ·have hl:=h4 k (by omega)
  unfold xdj at hl;by_cases c:m.lines[k]!.tag=-1
  ·rw [if_pos c] at hl
   obtain⟨l1,l2⟩:=hl;have l3:m.lines[k]!.cells.length=0:=by rw [l2];rfl
   repeat(first|(simp only [c,l1];try simp only [go_sem])|refine And.intro (by omega) ?_|refine And.intro rfl ?_|refine xd1 rfl rfl ?_|refine xax ?_|refine xbc (by kernel_rfl) ?_|(simp (disch:=omega) only [xbq,Nat.min_eq_left,Nat.min_eq_right,if_pos,if_neg,xb6,xaq,xbv,xen,xeu,xet,decT,decF,beqT,beqF,bneT,bneF,Int.toNat_natCast];try simp only [go_sem])|(refine xas rfl ?_ ?_;·(simp<;>omega))|(refine xaw rfl ?_ ?_;·(simp<;>omega))|((first|refine xb0 ?_|refine xd2 rfl ?_|refine xg9 rfl ?_|refine xew xap rfl (by kernel_rfl) ?_|refine xex xap rfl (by kernel_rfl) ?_|refine xey xap rfl (by kernel_rfl) ?_);simp only [go_sem]))
   exact zn1 (hJ _ (⟨k+1,hlt⟩) (by first|omega|(dsimp only;omega)|(simp;omega))) hlt
  ·rw [if_neg c] at hl
   obtain⟨l1,l2,l3,l4,l5⟩:=hl;have g:=ye6 m.lines[k]!.cells l5 (by omega);refine zst ?_;refine zcd (g) ?_;exact zn1 (hJ _ (⟨k+1,hlt⟩) (by first|omega|(dsimp only;omega)|(simp;omega))) hlt
 obtain rfl:k=m.lines.length:=by omega
 refine zst ?_;exact zrt mz
theorem yip (x:PThr) (h:okThr 1099511627776 x):Fnc Tryz.prog 116 [thrV false x] (fun y obs=>y=.bool true∧obs=[]):=by
 refine zcf Tryz.prog 116 fun mz=>?_;obtain⟨h1,h2,h3,h4,h5,h6,h7,h8,h9,h10,h11,h12,h13,h14⟩:=h;refine zgo mz fun W S=>?_;refine zlk [1,6,7] (fun p:{p:Nat // p≤x.regs.length}=>[(8,.int .i64 p.1)]) (fun _=>[⟨.box false 148,true,0,thrV false x⟩]) (fun p=>x.regs.length-p.1) (⟨0,by simp⟩) 1 ?_;intro J hJ
 rintro⟨k,hk0⟩
 by_cases hlt:k<x.regs.length
 ·have f:=xx8 x.regs[k]! (xb3 h1 hlt)
  refine zst ?_;refine zcd (f) ?_;exact zn1 (hJ _ (⟨k+1,hlt⟩) (by first|omega|(dsimp only;omega)|(simp;omega))) hlt
 obtain rfl:k=x.regs.length:=by omega
 refine zst ?_;exact zrt mz
theorem xjg (op:Int):Fnc Tryz.prog 40 [.int .i64 op] (fun x obs=>x=.bool (decide (xbm op))∧obs=[]):=by
 refine zcf Tryz.prog 40 fun mz=>?_;by_cases h:xbm op
 ·rw [decT h]
  rcases h with rfl|rfl|rfl|rfl
  ·skip
   refine zgo mz fun W S=>?_;exact zrt mz
  ·skip
   refine zgo mz fun W S=>?_;exact zrt mz
  ·skip
   refine zgo mz fun W S=>?_;exact zrt mz
  ·skip
   refine zgo mz fun W S=>?_;exact zrt mz
 ·rw [decF h]
  unfold xbm at h;refine zgo mz fun W S=>?_;exact zrt mz
theorem xtt (op:Int):Fnc Tryz.prog 122 [.int .i64 op] (fun x obs=>x=.bool (decide (xab op))∧obs=[]):=by
 refine zcf Tryz.prog 122 fun mz=>?_;have f:=xjg op;by_cases h:xbm op
 ·rw [decT h] at f
  rw [decT (p:=xab op) (Or.inl h)];refine zgo mz fun W S=>?_;refine zcd (f) ?_;exact zrt mz
 ·rw [decF h] at f
  by_cases h2:op=22
  ·rw [decT (p:=xab op) (Or.inr (Or.inl h2))]
   refine zgo mz fun W S=>?_;refine zcd (f) ?_;exact zrt mz
  by_cases h3:op=24
  ·rw [decT (p:=xab op) (Or.inr (Or.inr h3))]
   refine zgo mz fun W S=>?_;refine zcd (f) ?_;exact zrt mz
  ·rw [decF (p:=xab op) (fun q=>q.elim h (fun q=>q.elim h2 h3))]
   refine zgo mz fun W S=>?_;refine zcd (f) ?_;exact zrt mz
theorem ycb {c:Int} (h0:0≤c) (h1:c≤24):c=0∨c=1∨c=2∨c=3∨c=4∨c=5∨c=6∨c=7∨c=8∨c=9∨c=10∨c=11∨c=12∨c=13∨c=14∨c=15∨c=16∨c=17∨c=18∨c=19∨c=20∨c=21∨c=22∨c=23∨c=24:=by omega
theorem yf9 (op:Int) (h0:0≤op) (h1:op≤24):Fnc Tryz.prog 94 [.int .i64 op] (fun x obs=>x=.arr 1 ((xd7 op).map V.bool)∧obs=[]):=by
 refine zcf Tryz.prog 94 fun mz=>?_;rcases ycb h0 h1 with rfl|rfl|rfl|rfl|rfl|rfl|rfl|rfl|rfl|rfl|rfl|rfl|rfl|rfl|rfl|rfl|rfl|rfl|rfl|rfl|rfl|rfl|rfl|rfl|rfl<;>clear h0 h1
 all_goals
  refine zgo mz fun W S=>?_;exact zrt mz
theorem yir (op:Int):∃u0 u1 u2 u3,xd7 op=[u0,u1,u2,u3]:=by
 unfold xd7
 repeat' split
 all_goals exact⟨_,_,_,_,rfl⟩
theorem yge (i:PInstr) (h:xp3 i):Fnc Tryz.prog 95 [xcj i] (fun x obs=>x=.bool true∧obs=[]):=by
 refine zcf Tryz.prog 95 fun mz=>?_;obtain⟨h0,h1,⟨a0,a1,a2⟩,⟨b0,b1,b2⟩,⟨c0,c1,c2⟩,⟨d0,d1,d2⟩,hj,hl,hs⟩:=h;obtain⟨op,a,b,c,imm⟩:=i;dsimp only at h0 h1 a0 a1 a2 b0 b1 b2 c0 c1 c2 d0 d1 d2 hj hl hs;have f:=yf9 op h0 h1;have g:=xjg op;obtain⟨u0,u1,u2,u3,hu⟩:=yir op;rw [hu] at f a2 b2 c2 d2;simp only [List.getElem!_cons_zero,List.getElem!_cons_succ] at a2 b2 c2 d2;simp only [List.map_cons,List.map_nil] at f;have e0:u0=true∨u0=false∧a=0:=by cases u0 with
  |true=>exact Or.inl rfl
  |false=>exact Or.inr ⟨rfl,a2 rfl⟩
 have e1:u1=true∨u1=false∧b=0:=by cases u1 with
  |true=>exact Or.inl rfl
  |false=>exact Or.inr ⟨rfl,b2 rfl⟩
 have e2:u2=true∨u2=false∧c=0:=by cases u2 with
  |true=>exact Or.inl rfl
  |false=>exact Or.inr ⟨rfl,c2 rfl⟩
 have e3:u3=true∨u3=false∧imm=0:=by cases u3 with
  |true=>exact Or.inl rfl
  |false=>exact Or.inr ⟨rfl,d2 rfl⟩
 clear hu a2 b2 c2 d2;rcases e0 with rfl|⟨rfl,rfl⟩<;>rcases e1 with rfl|⟨rfl,rfl⟩<;>rcases e2 with rfl|⟨rfl,rfl⟩<;>rcases e3 with rfl|⟨rfl,rfl⟩
 all_goals
  refine zgo mz fun W S=>?_;refine zcd (f) ?_;refine xad 4 ?_;refine zst ?_;by_cases j:xbm op
  ·rw [decT j] at g
   have j1:=hj j;refine zcd (g) ?_;exact zrt mz
  ·rw [decF j] at g
   by_cases k1:op=15
   ·have j1:=hl k1
    refine zcd (g) ?_;exact zrt mz
   by_cases k2:op=23
   ·have j1:=hs k2
    refine zcd (g) ?_;exact zrt mz
   refine zcd (g) ?_;exact zrt mz
theorem ye9 (p:PProg) (h:okProg p):Fnc Tryz.prog 67 [xbn false p] (fun x obs=>x=.int .i64 0∧obs=[]):=by
 refine zcf Tryz.prog 67 fun mz=>?_;obtain⟨h1,h2,h3,h4,h5,h6⟩:=h;have f:=yax p.sizes h1;have hs4:=h1.2.2;refine zgo mz fun W S=>?_;refine zcd (f) ?_;refine zlk [1,23,24] (fun q:{q:Nat // q≤p.data.length}=>[(25,.int .i64 q.1)]) (fun _=>[⟨.box false 29,true,0,xbn false p⟩]) (fun q=>p.data.length-q.1) (⟨0,by simp⟩) 1 ?_;intro J hJ
 rintro⟨k,hk0⟩
 by_cases hlt:k<p.data.length
 ·have h7:=h3 k (by omega)
  refine zst ?_;exact zn1 (hJ _ (⟨k+1,hlt⟩) (by first|omega|(dsimp only;omega)|(simp;omega))) hlt
 obtain rfl:k=p.data.length:=by omega
 refine zst ?_;refine zlk [1,50,51] (fun q:{q:Nat // q≤p.code.length}=>[(52,.int .i64 q.1)]) (fun _=>[⟨.box false 29,true,0,xbn false p⟩]) (fun q=>p.code.length-q.1) (⟨0,by simp⟩) 1 ?_;intro J hJ
 rintro⟨k,hk0⟩
 by_cases hlt:k<p.code.length
 ·have g:=yge p.code[k]! (xhj ⟨h1,h2,h3,h4,h5,h6⟩ hlt).1
  refine zst ?_;refine zcd (g) ?_;exact zn1 (hJ _ (⟨k+1,hlt⟩) (by first|omega|(dsimp only;omega)|(simp;omega))) hlt
 obtain rfl:k=p.code.length:=by omega
 refine zst ?_;refine zlk [1,61,62] (fun q:{q:Nat // q≤p.code.length}=>[(63,.int .i64 q.1)]) (fun _=>[⟨.box false 29,true,0,xbn false p⟩]) (fun q=>p.code.length-q.1) (⟨0,by simp⟩) 1 ?_;intro J hJ
 rintro⟨k,hk0⟩
 by_cases hlt:k<p.code.length
 ·obtain⟨-,g1,g2⟩:=xhj ⟨h1,h2,h3,h4,h5,h6⟩ hlt
  have g:=xjg p.code[k]!.op;by_cases j:xbm p.code[k]!.op
  ·rw [decT j] at g
   have j1:=g1 j;have j2:p.code[k]!.op≠15:=by unfold xbm at j;omega
   refine zst ?_;refine zcd (g) ?_;exact zn1 (hJ _ (⟨k+1,hlt⟩) (by first|omega|(dsimp only;omega)|(simp;omega))) hlt
  ·rw [decF j] at g
   by_cases c:p.code[k]!.op=15
   ·have j1:=g2 c
    refine zst ?_;refine zcd (g) ?_;exact zn1 (hJ _ (⟨k+1,hlt⟩) (by first|omega|(dsimp only;omega)|(simp;omega))) hlt
   ·refine zst ?_
    refine zcd (g) ?_;exact zn1 (hJ _ (⟨k+1,hlt⟩) (by first|omega|(dsimp only;omega)|(simp;omega))) hlt
 obtain rfl:k=p.code.length:=by omega
 refine zst ?_;exact zrt mz
theorem xuf (p:PProg) (m:PMach) (h:okMach p 1099511627776 m):Fnc Tryz.prog 100 [xbn false p,xd8 false m] (fun x obs=>x=.bool true∧obs=[]):=by
 refine zcf Tryz.prog 100 fun mz=>?_;have f1:=ye9 p h.prog;have f2:=xyl m.lay p.sizes h.lay;have f3:=ygr m.mem h.mem;have h4:=h.n;refine zgo mz fun W S=>?_;refine zcd (f1) ?_;refine zcd (f2) ?_;refine zcd (f3) ?_;refine zlk [31,32] (fun q:{q:Nat // q≤m.thr.length}=>[(33,.int .i64 q.1)]) (fun _=>[⟨.box false 29,true,0,xbn false p⟩,⟨.box false 39,true,0,xd8 false m⟩]) (fun q=>m.thr.length-q.1) (⟨0,by simp⟩) 2 ?_;intro J hJ
 rintro⟨k,hk0⟩
 by_cases hlt:k<m.thr.length
 ·have g:=yip m.thr[k]! (xcm h (by omega))
  refine zst ?_;refine zcd (g) ?_;exact zn2 (hJ _ (⟨k+1,hlt⟩) (by first|omega|(dsimp only;omega)|(simp;omega))) hlt
 obtain rfl:k=m.thr.length:=by omega
 refine zst ?_;exact zrt mz
end Go.Proofs.YtbgpfigkcpmnfaaGreat
