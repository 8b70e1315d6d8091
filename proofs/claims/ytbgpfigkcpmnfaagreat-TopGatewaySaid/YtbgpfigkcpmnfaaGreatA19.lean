import Derived.Test.YtbgpfigkcpmnfaaGreatA8
import Derived.Test.YtbgpfigkcpmnfaaGreatA10
import Derived.Test.YtbgpfigkcpmnfaaGreatA6
set_option linter.unusedSimpArgs false
set_option linter.unusedVariables false
set_option maxHeartbeats 64000000
set_option maxRecDepth 100000
namespace Go.Proofs.YtbgpfigkcpmnfaaGreat
open Go Go.RowKit Rdn Rdn.Dp
theorem ybg (a b:Cell):(a.tag==b.tag && a.val==b.val)=decide (a=b):=by
 obtain⟨a1,a2⟩:=a;obtain⟨b1,b2⟩:=b;by_cases h1:a1=b1<;>by_cases h2:a2=b2<;>simp [h1,h2]
theorem yf4 {l:PLay} {s:List Int} (h:xeh l s) {a:Int} {q:Int×Int} (hq:resS l.bases s 0 a=some q):q.2<32:=by
 obtain⟨⟨i0,i1,i2,i3⟩,-,-⟩:=xjq h hq;have:=ydu h.1 (k:=q.1.toNat) (by omega);omega
theorem xts (l:PLay) (s:List Int) (op:Int) (b c:Cell) (h:xeh l s) (hb:xbh b) (hc:xbh c) (ho:3≤op∧op≤14):Fnc Tryz.prog 121 [layV false l,.sl false 1 (i64s s),.int .i64 op,xau b,xau c] (fun x obs=>x=.tup [xau (aluS l s op b c).1,.int .i64 (aluS l s op b c).2]∧obs=[]):=by
 refine zcf Tryz.prog 121 fun mz=>?_;obtain⟨tb,v⟩:=b;obtain⟨tc,w⟩:=c;obtain⟨b0,b1,b2,b3⟩:=hb;obtain⟨d0,d1,d2,d3⟩:=hc;dsimp only at b0 b1 b2 b3 d0 d1 d2 d3;by_cases o14:op=14
 ·subst o14
  have hr:aluS l s 14 ⟨tb,v⟩ ⟨tc,w⟩=(xik (decide ((⟨tb,v⟩:Cell)=⟨tc,w⟩)),0):=rfl;have f:=xsl (decide ((⟨tb,v⟩:Cell)=⟨tc,w⟩));have he:=ybg ⟨tb,v⟩ ⟨tc,w⟩;dsimp only at he;rw [hr,←he];rw [←he] at f;clear hr he;refine zgo mz fun W S=>?_;refine zcd (f) ?_;exact zrt mz
 by_cases n0:tb=0∧tc=0
 ·obtain⟨rfl,rfl⟩:=n0
  have hr:aluS l s op ⟨0,v⟩ ⟨0,w⟩=numS op v w:=by unfold aluS;rw [if_neg (by omega),if_neg o14,if_pos ⟨rfl,rfl⟩]
  have f:=ykj op v w (by omega) ⟨b2,b3⟩ ⟨d2,d3⟩;rw [hr];refine zgo mz fun W S=>?_;refine zcd (f) ?_;exact zrt mz
 have hb':tb=0∨tb=1∨tb=2:=by omega
 have hc':tc=0∨tc=1∨tc=2:=by omega
 by_cases o3:op=3
 ·subst o3
  rcases hb' with rfl|rfl|rfl<;>rcases hc' with rfl|rfl|rfl
  ·exact absurd ⟨rfl,rfl⟩ n0
  ·have f:=xhm l s ⟨1,w⟩ v false h ⟨by dsimp only;omega,by dsimp only;omega,d2,d3⟩ ⟨b2,b3⟩
   rw [show aluS l s 3 ⟨0,v⟩ ⟨1,w⟩=xc4 l s ⟨1,w⟩ v false from rfl];refine zgo mz fun W S=>?_;refine zcd (f) ?_;exact zrt mz
  ·rw [show aluS l s 3 ⟨0,v⟩ ⟨2,w⟩=(c0,3) from rfl]
   refine zgo mz fun W S=>?_;exact zrh mz c0.eq_1
  ·have f:=xhm l s ⟨1,v⟩ w false h ⟨by dsimp only;omega,by dsimp only;omega,b2,b3⟩ ⟨d2,d3⟩
   rw [show aluS l s 3 ⟨1,v⟩ ⟨0,w⟩=xc4 l s ⟨1,v⟩ w false from rfl];refine zgo mz fun W S=>?_;refine zcd (f) ?_;exact zrt mz
  ·rw [show aluS l s 3 ⟨1,v⟩ ⟨1,w⟩=(c0,3) from rfl]
   refine zgo mz fun W S=>?_;exact zrh mz c0.eq_1
  ·rw [show aluS l s 3 ⟨1,v⟩ ⟨2,w⟩=(c0,3) from rfl]
   refine zgo mz fun W S=>?_;exact zrh mz c0.eq_1
  ·rw [show aluS l s 3 ⟨2,v⟩ ⟨0,w⟩=(c0,3) from rfl]
   refine zgo mz fun W S=>?_;exact zrh mz c0.eq_1
  ·rw [show aluS l s 3 ⟨2,v⟩ ⟨1,w⟩=(c0,3) from rfl]
   refine zgo mz fun W S=>?_;exact zrh mz c0.eq_1
  ·rw [show aluS l s 3 ⟨2,v⟩ ⟨2,w⟩=(c0,3) from rfl]
   refine zgo mz fun W S=>?_;exact zrh mz c0.eq_1
 by_cases o4:op=4
 ·subst o4
  rcases hb' with rfl|rfl|rfl<;>rcases hc' with rfl|rfl|rfl
  ·exact absurd ⟨rfl,rfl⟩ n0
  ·rw [show aluS l s 4 ⟨0,v⟩ ⟨1,w⟩=(c0,3) from rfl]
   refine zgo mz fun W S=>?_;exact zrh mz c0.eq_1
  ·rw [show aluS l s 4 ⟨0,v⟩ ⟨2,w⟩=(c0,3) from rfl]
   refine zgo mz fun W S=>?_;exact zrh mz c0.eq_1
  ·have f:=xhm l s ⟨1,v⟩ w true h ⟨by dsimp only;omega,by dsimp only;omega,b2,b3⟩ ⟨d2,d3⟩
   rw [show aluS l s 4 ⟨1,v⟩ ⟨0,w⟩=xc4 l s ⟨1,v⟩ w true from rfl];refine zgo mz fun W S=>?_;refine zcd (f) ?_;exact zrt mz
  ·cases q1:resS l.bases s 0 v with
   |none=>
    cases q2:resS l.bases s 0 w with
    |none=>
     have f:=xko l s ⟨1,v⟩ ⟨1,w⟩ h ⟨by dsimp only;omega,by dsimp only;omega,b2,b3⟩ ⟨by dsimp only;omega,by dsimp only;omega,d2,d3⟩ _ _ q1 q2;dsimp only [Option.getD,Option.isSome,plV,Bool.true_and,Bool.false_and,Bool.and_false] at f;rw [show aluS l s 4 ⟨1,v⟩ ⟨1,w⟩=(c0,4) by simp [aluS,q1,q2]];refine zgo mz fun W S=>?_;refine zcd (f) ?_;exact zrh mz c0.eq_1
    |some r2=>
     have f:=xko l s ⟨1,v⟩ ⟨1,w⟩ h ⟨by dsimp only;omega,by dsimp only;omega,b2,b3⟩ ⟨by dsimp only;omega,by dsimp only;omega,d2,d3⟩ _ _ q1 q2;dsimp only [Option.getD,Option.isSome,plV,Bool.true_and,Bool.false_and,Bool.and_false] at f;rw [show aluS l s 4 ⟨1,v⟩ ⟨1,w⟩=(c0,4) by simp [aluS,q1,q2]];refine zgo mz fun W S=>?_;refine zcd (f) ?_;exact zrh mz c0.eq_1
   |some r1=>
    cases q2:resS l.bases s 0 w with
    |none=>
     have f:=xko l s ⟨1,v⟩ ⟨1,w⟩ h ⟨by dsimp only;omega,by dsimp only;omega,b2,b3⟩ ⟨by dsimp only;omega,by dsimp only;omega,d2,d3⟩ _ _ q1 q2;dsimp only [Option.getD,Option.isSome,plV,Bool.true_and,Bool.false_and,Bool.and_false] at f;rw [show aluS l s 4 ⟨1,v⟩ ⟨1,w⟩=(c0,4) by simp [aluS,q1,q2]];refine zgo mz fun W S=>?_;refine zcd (f) ?_;exact zrh mz c0.eq_1
    |some r2=>
     have f:=xko l s ⟨1,v⟩ ⟨1,w⟩ h ⟨by dsimp only;omega,by dsimp only;omega,b2,b3⟩ ⟨by dsimp only;omega,by dsimp only;omega,d2,d3⟩ _ _ q1 q2;dsimp only [Option.getD,Option.isSome,plV,Bool.true_and,Bool.false_and,Bool.and_false] at f;obtain⟨x1,x2⟩:=r1;obtain⟨y1,y2⟩:=r2;dsimp only at f;obtain⟨⟨-,-,i2,i3⟩,-,-⟩:=xjq h q1;obtain⟨⟨-,-,j2,j3⟩,-,-⟩:=xjq h q2;dsimp only at i2 j2;by_cases e:x1=y1
     ·subst e
      rw [decT rfl] at f;rw [show aluS l s 4 ⟨1,v⟩ ⟨1,w⟩=(⟨0,IntKind.u16.wrap (x2-y2)⟩,0) by simp [aluS,q1,q2]];have z1:=yf4 h q1;have z2:=yf4 h q2;dsimp only at z1 z2;refine zgo mz fun W S=>?_;refine zcd (f) ?_;exact zrt mz
     ·rw [decF e] at f
      rw [show aluS l s 4 ⟨1,v⟩ ⟨1,w⟩=(c0,4) by simp [aluS,q1,q2,e]];refine zgo mz fun W S=>?_;refine zcd (f) ?_;exact zrh mz c0.eq_1
  ·rw [show aluS l s 4 ⟨1,v⟩ ⟨2,w⟩=(c0,3) from rfl]
   refine zgo mz fun W S=>?_;exact zrh mz c0.eq_1
  ·rw [show aluS l s 4 ⟨2,v⟩ ⟨0,w⟩=(c0,3) from rfl]
   refine zgo mz fun W S=>?_;exact zrh mz c0.eq_1
  ·rw [show aluS l s 4 ⟨2,v⟩ ⟨1,w⟩=(c0,3) from rfl]
   refine zgo mz fun W S=>?_;exact zrh mz c0.eq_1
  ·rw [show aluS l s 4 ⟨2,v⟩ ⟨2,w⟩=(c0,3) from rfl]
   refine zgo mz fun W S=>?_;exact zrh mz c0.eq_1
 by_cases o13:op=13
 ·subst o13
  rcases hb' with rfl|rfl|rfl<;>rcases hc' with rfl|rfl|rfl
  ·exact absurd ⟨rfl,rfl⟩ n0
  ·rw [show aluS l s 13 ⟨0,v⟩ ⟨1,w⟩=(c0,3) from rfl]
   refine zgo mz fun W S=>?_;exact zrh mz c0.eq_1
  ·rw [show aluS l s 13 ⟨0,v⟩ ⟨2,w⟩=(c0,3) from rfl]
   refine zgo mz fun W S=>?_;exact zrh mz c0.eq_1
  ·rw [show aluS l s 13 ⟨1,v⟩ ⟨0,w⟩=(c0,3) from rfl]
   refine zgo mz fun W S=>?_;exact zrh mz c0.eq_1
  ·cases q1:resS l.bases s 0 v with
   |none=>
    cases q2:resS l.bases s 0 w with
    |none=>
     have f:=xko l s ⟨1,v⟩ ⟨1,w⟩ h ⟨by dsimp only;omega,by dsimp only;omega,b2,b3⟩ ⟨by dsimp only;omega,by dsimp only;omega,d2,d3⟩ _ _ q1 q2;dsimp only [Option.getD,Option.isSome,plV,Bool.true_and,Bool.false_and,Bool.and_false] at f;rw [show aluS l s 13 ⟨1,v⟩ ⟨1,w⟩=(c0,4) by simp [aluS,q1,q2]];refine zgo mz fun W S=>?_;refine zcd (f) ?_;exact zrh mz c0.eq_1
    |some r2=>
     have f:=xko l s ⟨1,v⟩ ⟨1,w⟩ h ⟨by dsimp only;omega,by dsimp only;omega,b2,b3⟩ ⟨by dsimp only;omega,by dsimp only;omega,d2,d3⟩ _ _ q1 q2;dsimp only [Option.getD,Option.isSome,plV,Bool.true_and,Bool.false_and,Bool.and_false] at f;rw [show aluS l s 13 ⟨1,v⟩ ⟨1,w⟩=(c0,4) by simp [aluS,q1,q2]];refine zgo mz fun W S=>?_;refine zcd (f) ?_;exact zrh mz c0.eq_1
   |some r1=>
    cases q2:resS l.bases s 0 w with
    |none=>
     have f:=xko l s ⟨1,v⟩ ⟨1,w⟩ h ⟨by dsimp only;omega,by dsimp only;omega,b2,b3⟩ ⟨by dsimp only;omega,by dsimp only;omega,d2,d3⟩ _ _ q1 q2;dsimp only [Option.getD,Option.isSome,plV,Bool.true_and,Bool.false_and,Bool.and_false] at f;rw [show aluS l s 13 ⟨1,v⟩ ⟨1,w⟩=(c0,4) by simp [aluS,q1,q2]];refine zgo mz fun W S=>?_;refine zcd (f) ?_;exact zrh mz c0.eq_1
    |some r2=>
     have f:=xko l s ⟨1,v⟩ ⟨1,w⟩ h ⟨by dsimp only;omega,by dsimp only;omega,b2,b3⟩ ⟨by dsimp only;omega,by dsimp only;omega,d2,d3⟩ _ _ q1 q2;dsimp only [Option.getD,Option.isSome,plV,Bool.true_and,Bool.false_and,Bool.and_false] at f;obtain⟨x1,x2⟩:=r1;obtain⟨y1,y2⟩:=r2;dsimp only at f;obtain⟨⟨-,-,i2,i3⟩,-,-⟩:=xjq h q1;obtain⟨⟨-,-,j2,j3⟩,-,-⟩:=xjq h q2;dsimp only at i2 j2;by_cases e:x1=y1
     ·subst e
      rw [decT rfl] at f;have g:=xsl (decide (x2<y2));rw [show aluS l s 13 ⟨1,v⟩ ⟨1,w⟩=(xik (decide (x2<y2)),0) by simp [aluS,q1,q2]];refine zgo mz fun W S=>?_;refine zcd (f) ?_;refine zcd (g) ?_;exact zrt mz
     ·rw [decF e] at f
      rw [show aluS l s 13 ⟨1,v⟩ ⟨1,w⟩=(c0,4) by simp [aluS,q1,q2,e]];refine zgo mz fun W S=>?_;refine zcd (f) ?_;exact zrh mz c0.eq_1
  ·rw [show aluS l s 13 ⟨1,v⟩ ⟨2,w⟩=(c0,3) from rfl]
   refine zgo mz fun W S=>?_;exact zrh mz c0.eq_1
  ·rw [show aluS l s 13 ⟨2,v⟩ ⟨0,w⟩=(c0,3) from rfl]
   refine zgo mz fun W S=>?_;exact zrh mz c0.eq_1
  ·rw [show aluS l s 13 ⟨2,v⟩ ⟨1,w⟩=(c0,3) from rfl]
   refine zgo mz fun W S=>?_;exact zrh mz c0.eq_1
  ·rw [show aluS l s 13 ⟨2,v⟩ ⟨2,w⟩=(c0,3) from rfl]
   refine zgo mz fun W S=>?_;exact zrh mz c0.eq_1
 ·rcases hb' with rfl|rfl|rfl<;>rcases hc' with rfl|rfl|rfl
  ·exact absurd ⟨rfl,rfl⟩ n0
  ·rw [show aluS l s op ⟨0,v⟩ ⟨1,w⟩=(c0,3) by simp [aluS,o14,o3,o4,o13];omega]
   refine zgo mz fun W S=>?_;exact zrh mz c0.eq_1
  ·rw [show aluS l s op ⟨0,v⟩ ⟨2,w⟩=(c0,3) by simp [aluS,o14,o3,o4,o13];omega]
   refine zgo mz fun W S=>?_;exact zrh mz c0.eq_1
  ·rw [show aluS l s op ⟨1,v⟩ ⟨0,w⟩=(c0,3) by simp [aluS,o14,o3,o4,o13];omega]
   refine zgo mz fun W S=>?_;exact zrh mz c0.eq_1
  ·rw [show aluS l s op ⟨1,v⟩ ⟨1,w⟩=(c0,3) by simp [aluS,o14,o3,o4,o13];omega]
   refine zgo mz fun W S=>?_;exact zrh mz c0.eq_1
  ·rw [show aluS l s op ⟨1,v⟩ ⟨2,w⟩=(c0,3) by simp [aluS,o14,o3,o4,o13];omega]
   refine zgo mz fun W S=>?_;exact zrh mz c0.eq_1
  ·rw [show aluS l s op ⟨2,v⟩ ⟨0,w⟩=(c0,3) by simp [aluS,o14,o3,o4,o13];omega]
   refine zgo mz fun W S=>?_;exact zrh mz c0.eq_1
  ·rw [show aluS l s op ⟨2,v⟩ ⟨1,w⟩=(c0,3) by simp [aluS,o14,o3,o4,o13];omega]
   refine zgo mz fun W S=>?_;exact zrh mz c0.eq_1
  ·rw [show aluS l s op ⟨2,v⟩ ⟨2,w⟩=(c0,3) by simp [aluS,o14,o3,o4,o13];omega]
   refine zgo mz fun W S=>?_;exact zrh mz c0.eq_1
end Go.Proofs.YtbgpfigkcpmnfaaGreat
