import Derived.Test.YthmjocibdepahaaGreatA10
set_option linter.defProp false
set_option linter.unusedSimpArgs false
set_option linter.unusedVariables false
set_option maxHeartbeats 64000000
set_option maxRecDepth 100000
namespace Go.Proofs.YthmjocibdepahaaGreat
open Go Go.RowKit Rdn Rdn.Dp
def bU:=aC 217
theorem yh6 (a b:Cell):(a.tag==b.tag && a.val==b.val)=decide (a=b):=by
 obtain⟨a1,a2⟩:=a;obtain⟨b1,b2⟩:=b;by_cases h1:a1=b1<;>by_cases h2:a2=b2<;>simp [h1,h2]
theorem ycs {l:PLay} {s:List Int} (h:jW l s) {a:Int} {q:Int×Int} (hq:jR l.bases s 0 a=some q):q.2<32:=by
 obtain⟨⟨i0,i1,i2,i3⟩,-,-⟩:=xd6 h hq;have:=xU h.1 (k:=q.1.toNat) ω;omega
theorem yfx (l:PLay) (s:List Int) (op:Int) (b c:Cell) (h:jW l s) (hb:iW b) (hc:iW c) (ho:3≤op∧op≤14):Fnc Tryz.prog 217 [dQ false l,.sl false 1 (bH s),.int .i64 op,bC b,bC c] (fun x obs=>x=.tup [bC (cO l s op b c).1,.int .i64 (cO l s op b c).2]∧obs=[]):=by
 obtain⟨tb,v⟩:=b;obtain⟨tc,w⟩:=c;obtain⟨b0,b1,b2,b3⟩:=hb;obtain⟨d0,d1,d2,d3⟩:=hc;dsimp only at b0 b1 b2 b3 d0 d1 d2 d3;by_cases o14:op=14
 ·subst o14
  have hr:cO l s 14 ⟨tb,v⟩ ⟨tc,w⟩=(vK (decide ((⟨tb,v⟩:Cell)=⟨tc,w⟩)),0):=rfl;have f:=xpi (decide ((⟨tb,v⟩:Cell)=⟨tc,w⟩));have he:=yh6 ⟨tb,v⟩ ⟨tc,w⟩;dsimp only at he;rw [hr,←he];rw [←he] at f;clear hr he;exact eY bU f
 by_cases n0:tb=0∧tc=0
 ·obtain⟨rfl,rfl⟩:=n0
  have hr:cO l s op ⟨0,v⟩ ⟨0,w⟩=qP op v w:=by unfold cO;rw [if_neg ω,if_neg o14,if_pos ⟨rfl,rfl⟩]
  have f:=ypp op v w ω ⟨b2,b3⟩ ⟨d2,d3⟩;rw [hr];exact eY bU f
 have hb':tb=0∨tb=1∨tb=2:=ω;have hc':tc=0∨tc=1∨tc=2:=ω;by_cases o3:op=3
 ·subst o3
  rcases hb' with rfl|rfl|rfl<;>rcases hc' with rfl|rfl|rfl
  ·exact absurd ⟨rfl,rfl⟩ n0
  ·have f:=xja l s ⟨1,w⟩ v false h ⟨by dsimp only;omega,by dsimp only;omega,d2,d3⟩ ⟨b2,b3⟩
   rw [show cO l s 3 ⟨0,v⟩ ⟨1,w⟩=lD l s ⟨1,w⟩ v false from rfl];exact eY bU f
  ·rw [show cO l s 3 ⟨0,v⟩ ⟨2,w⟩=(c0,3) from rfl]
   refine aI bU fun W S=>?_;exact aX bU c0.eq_1
  ·have f:=xja l s ⟨1,v⟩ w false h ⟨by dsimp only;omega,by dsimp only;omega,b2,b3⟩ ⟨d2,d3⟩
   rw [show cO l s 3 ⟨1,v⟩ ⟨0,w⟩=lD l s ⟨1,v⟩ w false from rfl];exact eY bU f
  ·rw [show cO l s 3 ⟨1,v⟩ ⟨1,w⟩=(c0,3) from rfl]
   refine aI bU fun W S=>?_;exact aX bU c0.eq_1
  ·rw [show cO l s 3 ⟨1,v⟩ ⟨2,w⟩=(c0,3) from rfl]
   refine aI bU fun W S=>?_;exact aX bU c0.eq_1
  ·rw [show cO l s 3 ⟨2,v⟩ ⟨0,w⟩=(c0,3) from rfl]
   refine aI bU fun W S=>?_;exact aX bU c0.eq_1
  ·rw [show cO l s 3 ⟨2,v⟩ ⟨1,w⟩=(c0,3) from rfl]
   refine aI bU fun W S=>?_;exact aX bU c0.eq_1
  ·rw [show cO l s 3 ⟨2,v⟩ ⟨2,w⟩=(c0,3) from rfl]
   refine aI bU fun W S=>?_;exact aX bU c0.eq_1
 by_cases o4:op=4
 ·subst o4
  rcases hb' with rfl|rfl|rfl<;>rcases hc' with rfl|rfl|rfl
  ·exact absurd ⟨rfl,rfl⟩ n0
  ·rw [show cO l s 4 ⟨0,v⟩ ⟨1,w⟩=(c0,3) from rfl]
   refine aI bU fun W S=>?_;exact aX bU c0.eq_1
  ·rw [show cO l s 4 ⟨0,v⟩ ⟨2,w⟩=(c0,3) from rfl]
   refine aI bU fun W S=>?_;exact aX bU c0.eq_1
  ·have f:=xja l s ⟨1,v⟩ w true h ⟨by dsimp only;omega,by dsimp only;omega,b2,b3⟩ ⟨d2,d3⟩
   rw [show cO l s 4 ⟨1,v⟩ ⟨0,w⟩=lD l s ⟨1,v⟩ w true from rfl];exact eY bU f
  ·cases q1:jR l.bases s 0 v with
   |none=>
    cases q2:jR l.bases s 0 w with
    |none=>
     have f:=xdk l s ⟨1,v⟩ ⟨1,w⟩ h ⟨by dsimp only;omega,by dsimp only;omega,b2,b3⟩ ⟨by dsimp only;omega,by dsimp only;omega,d2,d3⟩ _ _ q1 q2;dsimp only [Option.getD,Option.isSome,lU,Bool.true_and,Bool.false_and,Bool.and_false] at f;rw [show cO l s 4 ⟨1,v⟩ ⟨1,w⟩=(c0,4) by simp [cO,q1,q2]];refine iR bU f fun W S=>?_;exact aX bU c0.eq_1
    |some r2=>
     have f:=xdk l s ⟨1,v⟩ ⟨1,w⟩ h ⟨by dsimp only;omega,by dsimp only;omega,b2,b3⟩ ⟨by dsimp only;omega,by dsimp only;omega,d2,d3⟩ _ _ q1 q2;dsimp only [Option.getD,Option.isSome,lU,Bool.true_and,Bool.false_and,Bool.and_false] at f;rw [show cO l s 4 ⟨1,v⟩ ⟨1,w⟩=(c0,4) by simp [cO,q1,q2]];refine iR bU f fun W S=>?_;exact aX bU c0.eq_1
   |some r1=>
    cases q2:jR l.bases s 0 w with
    |none=>
     have f:=xdk l s ⟨1,v⟩ ⟨1,w⟩ h ⟨by dsimp only;omega,by dsimp only;omega,b2,b3⟩ ⟨by dsimp only;omega,by dsimp only;omega,d2,d3⟩ _ _ q1 q2;dsimp only [Option.getD,Option.isSome,lU,Bool.true_and,Bool.false_and,Bool.and_false] at f;rw [show cO l s 4 ⟨1,v⟩ ⟨1,w⟩=(c0,4) by simp [cO,q1,q2]];refine iR bU f fun W S=>?_;exact aX bU c0.eq_1
    |some r2=>
     have f:=xdk l s ⟨1,v⟩ ⟨1,w⟩ h ⟨by dsimp only;omega,by dsimp only;omega,b2,b3⟩ ⟨by dsimp only;omega,by dsimp only;omega,d2,d3⟩ _ _ q1 q2;dsimp only [Option.getD,Option.isSome,lU,Bool.true_and,Bool.false_and,Bool.and_false] at f;obtain⟨x1,x2⟩:=r1;obtain⟨y1,y2⟩:=r2;dsimp only at f;obtain⟨⟨-,-,i2,i3⟩,-,-⟩:=xd6 h q1;obtain⟨⟨-,-,j2,j3⟩,-,-⟩:=xd6 h q2;dsimp only at i2 j2;by_cases e:x1=y1
     ·subst e
      rw [aN rfl] at f;rw [show cO l s 4 ⟨1,v⟩ ⟨1,w⟩=(⟨0,IntKind.u16.wrap (x2-y2)⟩,0) by simp [cO,q1,q2]];have z1:=ycs h q1;have z2:=ycs h q2;dsimp only at z1 z2;exact eY bU f
     ·rw [aJ e] at f
      rw [show cO l s 4 ⟨1,v⟩ ⟨1,w⟩=(c0,4) by simp [cO,q1,q2,e]];refine iR bU f fun W S=>?_;exact aX bU c0.eq_1
  ·rw [show cO l s 4 ⟨1,v⟩ ⟨2,w⟩=(c0,3) from rfl]
   refine aI bU fun W S=>?_;exact aX bU c0.eq_1
  ·rw [show cO l s 4 ⟨2,v⟩ ⟨0,w⟩=(c0,3) from rfl]
   refine aI bU fun W S=>?_;exact aX bU c0.eq_1
  ·rw [show cO l s 4 ⟨2,v⟩ ⟨1,w⟩=(c0,3) from rfl]
   refine aI bU fun W S=>?_;exact aX bU c0.eq_1
  ·rw [show cO l s 4 ⟨2,v⟩ ⟨2,w⟩=(c0,3) from rfl]
   refine aI bU fun W S=>?_;exact aX bU c0.eq_1
 by_cases o13:op=13
 ·subst o13
  rcases hb' with rfl|rfl|rfl<;>rcases hc' with rfl|rfl|rfl
  ·exact absurd ⟨rfl,rfl⟩ n0
  ·rw [show cO l s 13 ⟨0,v⟩ ⟨1,w⟩=(c0,3) from rfl]
   refine aI bU fun W S=>?_;exact aX bU c0.eq_1
  ·rw [show cO l s 13 ⟨0,v⟩ ⟨2,w⟩=(c0,3) from rfl]
   refine aI bU fun W S=>?_;exact aX bU c0.eq_1
  ·rw [show cO l s 13 ⟨1,v⟩ ⟨0,w⟩=(c0,3) from rfl]
   refine aI bU fun W S=>?_;exact aX bU c0.eq_1
  ·cases q1:jR l.bases s 0 v with
   |none=>
    cases q2:jR l.bases s 0 w with
    |none=>
     have f:=xdk l s ⟨1,v⟩ ⟨1,w⟩ h ⟨by dsimp only;omega,by dsimp only;omega,b2,b3⟩ ⟨by dsimp only;omega,by dsimp only;omega,d2,d3⟩ _ _ q1 q2;dsimp only [Option.getD,Option.isSome,lU,Bool.true_and,Bool.false_and,Bool.and_false] at f;rw [show cO l s 13 ⟨1,v⟩ ⟨1,w⟩=(c0,4) by simp [cO,q1,q2]];refine iR bU f fun W S=>?_;exact aX bU c0.eq_1
    |some r2=>
     have f:=xdk l s ⟨1,v⟩ ⟨1,w⟩ h ⟨by dsimp only;omega,by dsimp only;omega,b2,b3⟩ ⟨by dsimp only;omega,by dsimp only;omega,d2,d3⟩ _ _ q1 q2;dsimp only [Option.getD,Option.isSome,lU,Bool.true_and,Bool.false_and,Bool.and_false] at f;rw [show cO l s 13 ⟨1,v⟩ ⟨1,w⟩=(c0,4) by simp [cO,q1,q2]];refine iR bU f fun W S=>?_;exact aX bU c0.eq_1
   |some r1=>
    cases q2:jR l.bases s 0 w with
    |none=>
     have f:=xdk l s ⟨1,v⟩ ⟨1,w⟩ h ⟨by dsimp only;omega,by dsimp only;omega,b2,b3⟩ ⟨by dsimp only;omega,by dsimp only;omega,d2,d3⟩ _ _ q1 q2;dsimp only [Option.getD,Option.isSome,lU,Bool.true_and,Bool.false_and,Bool.and_false] at f;rw [show cO l s 13 ⟨1,v⟩ ⟨1,w⟩=(c0,4) by simp [cO,q1,q2]];refine iR bU f fun W S=>?_;exact aX bU c0.eq_1
    |some r2=>
     have f:=xdk l s ⟨1,v⟩ ⟨1,w⟩ h ⟨by dsimp only;omega,by dsimp only;omega,b2,b3⟩ ⟨by dsimp only;omega,by dsimp only;omega,d2,d3⟩ _ _ q1 q2;dsimp only [Option.getD,Option.isSome,lU,Bool.true_and,Bool.false_and,Bool.and_false] at f;obtain⟨x1,x2⟩:=r1;obtain⟨y1,y2⟩:=r2;dsimp only at f;obtain⟨⟨-,-,i2,i3⟩,-,-⟩:=xd6 h q1;obtain⟨⟨-,-,j2,j3⟩,-,-⟩:=xd6 h q2;dsimp only at i2 j2;by_cases e:x1=y1
     ·subst e
      rw [aN rfl] at f;have g:=xpi (decide (x2<y2));rw [show cO l s 13 ⟨1,v⟩ ⟨1,w⟩=(vK (decide (x2<y2)),0) by simp [cO,q1,q2]];exact zG2 bU f g
     ·rw [aJ e] at f
      rw [show cO l s 13 ⟨1,v⟩ ⟨1,w⟩=(c0,4) by simp [cO,q1,q2,e]];refine iR bU f fun W S=>?_;exact aX bU c0.eq_1
  ·rw [show cO l s 13 ⟨1,v⟩ ⟨2,w⟩=(c0,3) from rfl]
   refine aI bU fun W S=>?_;exact aX bU c0.eq_1
  ·rw [show cO l s 13 ⟨2,v⟩ ⟨0,w⟩=(c0,3) from rfl]
   refine aI bU fun W S=>?_;exact aX bU c0.eq_1
  ·rw [show cO l s 13 ⟨2,v⟩ ⟨1,w⟩=(c0,3) from rfl]
   refine aI bU fun W S=>?_;exact aX bU c0.eq_1
  ·rw [show cO l s 13 ⟨2,v⟩ ⟨2,w⟩=(c0,3) from rfl]
   refine aI bU fun W S=>?_;exact aX bU c0.eq_1
 ·rcases hb' with rfl|rfl|rfl<;>rcases hc' with rfl|rfl|rfl
  ·exact absurd ⟨rfl,rfl⟩ n0
  ·rw [show cO l s op ⟨0,v⟩ ⟨1,w⟩=(c0,3) by simp [cO,o14,o3,o4,o13];omega]
   refine aI bU fun W S=>?_;exact aX bU c0.eq_1
  ·rw [show cO l s op ⟨0,v⟩ ⟨2,w⟩=(c0,3) by simp [cO,o14,o3,o4,o13];omega]
   refine aI bU fun W S=>?_;exact aX bU c0.eq_1
  ·rw [show cO l s op ⟨1,v⟩ ⟨0,w⟩=(c0,3) by simp [cO,o14,o3,o4,o13];omega]
   refine aI bU fun W S=>?_;exact aX bU c0.eq_1
  ·rw [show cO l s op ⟨1,v⟩ ⟨1,w⟩=(c0,3) by simp [cO,o14,o3,o4,o13];omega]
   refine aI bU fun W S=>?_;exact aX bU c0.eq_1
  ·rw [show cO l s op ⟨1,v⟩ ⟨2,w⟩=(c0,3) by simp [cO,o14,o3,o4,o13];omega]
   refine aI bU fun W S=>?_;exact aX bU c0.eq_1
  ·rw [show cO l s op ⟨2,v⟩ ⟨0,w⟩=(c0,3) by simp [cO,o14,o3,o4,o13];omega]
   refine aI bU fun W S=>?_;exact aX bU c0.eq_1
  ·rw [show cO l s op ⟨2,v⟩ ⟨1,w⟩=(c0,3) by simp [cO,o14,o3,o4,o13];omega]
   refine aI bU fun W S=>?_;exact aX bU c0.eq_1
  ·rw [show cO l s op ⟨2,v⟩ ⟨2,w⟩=(c0,3) by simp [cO,o14,o3,o4,o13];omega]
   refine aI bU fun W S=>?_;exact aX bU c0.eq_1
end Go.Proofs.YthmjocibdepahaaGreat
