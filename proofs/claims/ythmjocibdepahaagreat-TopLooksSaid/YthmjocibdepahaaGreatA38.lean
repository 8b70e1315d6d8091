import Derived.Test.YthmjocibdepahaaGreatA34
import Derived.Test.YthmjocibdepahaaGreatA37
set_option linter.defProp false
set_option linter.unusedSimpArgs false
set_option linter.unusedVariables false
set_option maxHeartbeats 64000000
set_option maxRecDepth 100000
namespace Go.Proofs.YthmjocibdepahaaGreat
open Go Go.RowKit Rdn Rdn.Dp
def ynw:=aC 122
def yny:=aC 166
def yo8:=aC 123
def ya5:=aC 119
def xyt:=aC 61
def xyp:=aC 64
def rX:=aC 167
theorem pY (r n:Int):Fnc Tryz.prog 122 [.int .i64 r,.int .i64 n] (fun x obs=>x=nT ⟨1,r,0,0,n⟩∧obs=[]):=by
 exact aZ ynw
theorem xa5 (a b:Int):Fnc Tryz.prog 166 [.int .i64 a,.int .i64 b] (fun x obs=>x=nT ⟨2,a,b,0,0⟩∧obs=[]):=by
 exact aZ yny
theorem oV (n:Int):Fnc Tryz.prog 123 [.int .i64 n] (fun x obs=>x=nT ⟨23,0,0,0,n⟩∧obs=[]):=by
 exact aZ yo8
theorem yj0 (l:List Int) (k:Nat) (hk:k≤l.length) (s:List Int) (hs:oO s):FncM Tryz.prog 61 87 (gV l k) [.sl false 1 (bH s)] (fun x obs c=>x=dQ false (xj6 s (aG l k 1048576))∧obs=[]∧c=gV l (aB l k)):=by
 refine FncM.low ?_;have h0:=iT (l:=l) (k:=k) (n:=1048576) δ;have h1:=iZ (l:=l) (k:=k) (n:=1048576) δ;have fm:=yol s (aG l k 1048576) hs h0 ω;refine qX xyt fun W S b0 hb0=>?_;refine aO (fB l k 1048576 hk δ) ?_;refine aF (fm) ?_;exact zrm hb0 xyt
def chB (l:List Int) (k:Nat):Int:=[0,1,2,3,7,63][(aG l k 6).toNat]!
def chS (l:List Int) (k:Nat):PChoice:=⟨aG l k 4,chB l (aB l k),decide (aG l (aB l (aB l k)) 4=0)⟩
def chK (l:List Int) (k:Nat):Nat:=aB l (aB l (aB l k))
theorem yip (l:List Int) (k:Nat) (hk:k≤l.length):FncM Tryz.prog 64 87 (gV l k) [] (fun x obs c=>x=xke (chS l k)∧obs=[]∧c=gV l (chK l k)):=by
 have h0:=iT (l:=l) (k:=aB l k) (n:=6) δ;have h1:=iZ (l:=l) (k:=aB l k) (n:=6) δ;have k1:=aH hk;have k2:=aH k1;have hi:aG l (aB l k) 6=0∨aG l (aB l k) 6=1∨aG l (aB l k) 6=2∨aG l (aB l k) 6=3∨aG l (aB l k) 6=4∨aG l (aB l k) 6=5:=ω;have f1:=fB l k 4 hk δ;have f2:=fB l (aB l k) 6 k1 δ;have f3:=fB l (aB l (aB l k)) 4 k2 δ;unfold chS chB chK;generalize aG l (aB l k) 6=b at f2 hi⊢;clear h0 h1;rcases hi with rfl|rfl|rfl|rfl|rfl|rfl
 all_goals
  refine qX xyp fun W S b0 hb0=>?_;refine aO (f1) ?_;refine aO (f2) ?_;refine aO (f3) ?_;exact zrm hb0 xyp
def xq3 (S:List Int):Prop:=∀n∈S,1≤n∧n≤32
theorem xq4 {S:List Int} {x:Int} (h:xq3 S) (hx:1≤x∧x≤32):xq3 (S++[x]):=fun n hn=>by
 rcases List.mem_append.1 hn with hn|hn
 ·exact h n hn
 ·rw [List.mem_singleton] at hn;subst hn;exact hx
theorem yw5 (l:List Int) (k:Nat) (hk:k≤l.length):FncM Tryz.prog 119 87 (gV l k) [] (fun x obs c=>∃(s:List Int) (k':Nat),oO s∧k'≤l.length∧x=.sl false 1 (bH s)∧obs=[]∧c=gV l k'):=by
 refine FncM.low ?_;have h0:=iT (l:=l) (k:=k) (n:=9) δ;have h1:=iZ (l:=l) (k:=k) (n:=9) δ;have k1:=aH hk;have k2:=aH k1;have h2:=iT (l:=l) (k:=aB l k) (n:=4) δ;have h3:=iZ (l:=l) (k:=aB l k) (n:=4) δ;have f1:=fB l k 9 hk δ;have f2:=fB l (aB l k) 4 k1 δ;generalize aG l k 9=n0 at f1 h0 h1;obtain⟨K,hK⟩:∃K:Nat,aG l (aB l k) 4=K:=⟨_,(Int.toNat_of_nonneg h2).symm⟩;rw [hK] at f2 h3;refine qX ya5 fun W S b0 hb0=>?_;refine aO (f1) ?_;refine aO (f2) ?_;refine bI [0] (fun p:{p:Nat×List Int×Nat // p.1≤K∧p.2.1.length=p.1+1∧xq3 p.2.1∧p.2.2≤l.length}=>[(3,.own 1 p.1.1),(4,.int .i64 (K-p.1.1))]) (fun p=>[⟨.box true 87,true,0,gV l p.1.2.2⟩,⟨.row 3,true,p.1.1,.arr 1 (bH p.1.2.1)⟩]) (fun p=>K-p.1.1) (⟨(0,[4+n0],aB l (aB l k)),ω,rfl,by intro n hn;simp at hn;omega,k2⟩) 2 ?_;intro J hJ
 rintro⟨⟨i,S,q⟩,hi,hS,hL,hq⟩
 dsimp only at hi hS hL hq;by_cases hlt:i<K
 ·skip
  have g0:=iT (l:=l) (k:=q) (n:=3) δ;have g1:=iZ (l:=l) (k:=q) (n:=3) δ;have q1:=aH hq;have q2:=aH q1;have e1:=fB l q 3 hq δ;have hc:aG l q 3=0∨aG l q 3=1∨aG l q 3=2:=ω;generalize aG l q 3=b at e1 hc;rcases hc with rfl|rfl|rfl
  ·have e2:=fB l (aB l q) 6 q1 δ
   have g2:=iT (l:=l) (k:=aB l q) (n:=6) δ;have g3:=iZ (l:=l) (k:=aB l q) (n:=6) δ;have hsn:bH (S++[1+aG l (aB l q) 6])=bH S++[.int .i64 (1+aG l (aB l q) 6)]:=by simp [bH]
   refine aA ?_;refine aO (e1) ?_;refine aO (e2) ?_;exact vW (hJ _ (⟨(i+1,S++[1+aG l (aB l q) 6],aB l (aB l q)),ω,by rw [List.length_append,List.length_singleton,hS],xq4 hL ⟨ω,ω⟩,q2⟩) ψ) hsn
  ·have e2:=fB l (aB l q) 12 q1 δ
   have g2:=iT (l:=l) (k:=aB l q) (n:=12) δ;have g3:=iZ (l:=l) (k:=aB l q) (n:=12) δ;have hsn:bH (S++[1+aG l (aB l q) 12])=bH S++[.int .i64 (1+aG l (aB l q) 12)]:=by simp [bH]
   refine aA ?_;refine aO (e1) ?_;refine aO (e2) ?_;exact vW (hJ _ (⟨(i+1,S++[1+aG l (aB l q) 12],aB l (aB l q)),ω,by rw [List.length_append,List.length_singleton,hS],xq4 hL ⟨ω,ω⟩,q2⟩) ψ) hsn
  ·have e2:=fB l (aB l q) 32 q1 δ
   have g2:=iT (l:=l) (k:=aB l q) (n:=32) δ;have g3:=iZ (l:=l) (k:=aB l q) (n:=32) δ;have hsn:bH (S++[1+aG l (aB l q) 32])=bH S++[.int .i64 (1+aG l (aB l q) 32)]:=by simp [bH]
   refine aA ?_;refine aO (e1) ?_;refine aO (e2) ?_;exact vW (hJ _ (⟨(i+1,S++[1+aG l (aB l q) 32],aB l (aB l q)),ω,by rw [List.length_append,List.length_singleton,hS],xq4 hL ⟨ω,ω⟩,q2⟩) ψ) hsn
 ·obtain rfl:i=K:=ω
  have hz:oO S:=⟨hL,ω,ω⟩;refine aA ?_;refine dE hb0 ya5 ?_
  (exact⟨S,q,hz,hq,by simp only [go_sem],rfl,by simp only [go_sem]⟩)
def vS (S:Int) (i:PInstr):Prop:=(0≤i.op∧i.op≤24)∧(0≤i.a∧i.a<8∧((kC i.op)[0]! =false→i.a=0))∧(0≤i.b∧i.b<8∧((kC i.op)[1]! =false→i.b=0))∧(0≤i.c∧i.c<8∧((kC i.op)[2]! =false→i.c=0))∧(0≤i.imm∧i.imm≤65535∧((kC i.op)[3]! =false→i.imm=0))∧(i.op=15→i.imm<S)∧(i.op=23→i.imm≤15)
theorem sZ {S op a b c m:Int} {u0 u1 u2 u3:Bool} (hu:kC op=[u0,u1,u2,u3]) (ho:0≤op∧op≤24) (ha:0≤a∧a<8) (hb:0≤b∧b<8) (hc:0≤c∧c<8) (hm:0≤m∧m≤65535) (za:u0=false→a=0) (zb:u1=false→b=0) (zc:u2=false→c=0) (zm:u3=false→m=0) (h15:op=15→m<S) (h23:op=23→m≤15):vS S ⟨op,a,b,c,m⟩:=by
 unfold vS;dsimp only;rw [hu];exact⟨ho,⟨ha.1,ha.2,za⟩,⟨hb.1,hb.2,zb⟩,⟨hc.1,hc.2,zc⟩,⟨hm.1,hm.2,zm⟩,h15,h23⟩
theorem yme (l:List Int) (k:Nat) (hk:k≤l.length) (n most:Int) (hn:1≤n∧n≤4) (hm:1≤most∧most≤65535):FncM Tryz.prog 167 87 (gV l k) [.int .i64 n,.int .i64 most] (fun x obs c=>∃(i:PInstr) (k':Nat),vS n i∧k'≤l.length∧x=nT i∧obs=[]∧c=gV l k'):=by
 have h0:=iT (l:=l) (k:=k) (n:=25) δ;have h1:=iZ (l:=l) (k:=k) (n:=25) δ;have f1:=fB l k 25 hk δ;have k1:=aH hk;generalize hp:aB l k=p at k1 f1;clear hp;generalize hop:aG l k 25=op at h0 h1 f1;clear hop hk;have fu:=yf1 op h0 ω;have fj:=xcs op;have d8:∀q,0≤aG l q 8∧aG l q 8<8:=fun q=>⟨iT δ,iZ δ⟩;have d16:∀q,0≤aG l q 16∧aG l q 16<16:=fun q=>⟨iT δ,iZ δ⟩;have dn:∀q,0≤aG l q n∧aG l q n<n:=fun q=>⟨iT ω,iZ ω⟩;have dm:∀q,0≤aG l q most∧aG l q most<most:=fun q=>⟨iT ω,iZ ω⟩;have dw:=xet l;have z8:(0:Int)≤0∧(0:Int)<8:=δ;have zi:(0:Int)≤0∧(0:Int)≤65535:=δ;have n8:=fun q hq=>fB l q 8 hq δ;have n16:=fun q hq=>fB l q 16 hq δ;have nn:=fun q hq=>fB l q n hq ω;have nm:=fun q hq=>fB l q most hq ω;have nw:=fun q hq=>xnt l q hq;by_cases e:op=0∨op=24
 ·have hu:kC op=[false,false,false,false]:=by unfold kC;repeat(first|rw [if_pos ω]|rw [if_neg ω])
  have hj:¬eF op:=by unfold eF;omega
  rw [aJ hj] at fj;rw [hu] at fu;refine qX rX fun W S b0 hb0=>?_;refine aO (f1) ?_;refine jC fu fj ?_;refine dE hb0 rX ?_
  (exact⟨⟨_,_,_,_,_⟩,_,sZ hu ⟨h0,ω⟩ z8 z8 z8 zi (fun _=>rfl) (fun _=>rfl) (fun _=>rfl) (fun _=>rfl) (fun h=>absurd h ω) (fun h=>absurd h ω),k1,rfl,rfl,rfl⟩)
 by_cases e:op=1
 ·have hu:kC op=[true,false,false,true]:=by unfold kC;repeat(first|rw [if_pos ω]|rw [if_neg ω])
  have hj:¬eF op:=by unfold eF;omega
  rw [aJ hj] at fj;rw [hu] at fu;have hw0:=xet l (aB l p);refine qX rX fun W S b0 hb0=>?_;refine aO (f1) ?_;refine aF (fu) ?_;refine aO (n8 p k1) ?_;refine aF (fj) ?_;refine aO (nw (aB l p) (aH k1)) ?_;refine dE hb0 rX ?_
  (exact⟨⟨_,_,_,_,_⟩,_,sZ hu ⟨h0,ω⟩ (d8 _) z8 z8 (dw _) (fun h=>by cases h) (fun _=>rfl) (fun _=>rfl) (fun h=>by cases h) (fun h=>absurd h ω) (fun h=>absurd h ω),aH (aH (aH k1)),rfl,rfl,rfl⟩)
 by_cases e:op=2
 ·have hu:kC op=[true,true,false,false]:=by unfold kC;repeat(first|rw [if_pos ω]|rw [if_neg ω])
  have hj:¬eF op:=by unfold eF;omega
  rw [aJ hj] at fj;rw [hu] at fu;refine qX rX fun W S b0 hb0=>?_;refine aO (f1) ?_;refine aF (fu) ?_;refine aO (n8 p k1) ?_;refine aO (n8 (aB l p) (aH k1)) ?_;refine aF (fj) ?_;refine dE hb0 rX ?_
  (exact⟨⟨_,_,_,_,_⟩,_,sZ hu ⟨h0,ω⟩ (d8 _) (d8 _) z8 zi (fun h=>by cases h) (fun h=>by cases h) (fun _=>rfl) (fun _=>rfl) (fun h=>absurd h ω) (fun h=>absurd h ω),(aH (aH k1)),rfl,rfl,rfl⟩)
 by_cases e:3≤op∧op≤14
 ·have hu:kC op=[true,true,true,false]:=by unfold kC;repeat(first|rw [if_pos ω]|rw [if_neg ω])
  have hj:¬eF op:=by unfold eF;omega
  rw [aJ hj] at fj;rw [hu] at fu;refine qX rX fun W S b0 hb0=>?_;refine aO (f1) ?_;refine aF (fu) ?_;refine aO (n8 p k1) ?_;refine aO (n8 (aB l p) (aH k1)) ?_;refine aO (n8 (aB l (aB l p)) (aH (aH k1))) ?_;refine aF (fj) ?_;refine dE hb0 rX ?_
  (exact⟨⟨_,_,_,_,_⟩,_,sZ hu ⟨h0,ω⟩ (d8 _) (d8 _) (d8 _) zi (fun h=>by cases h) (fun h=>by cases h) (fun h=>by cases h) (fun _=>rfl) (fun h=>absurd h ω) (fun h=>absurd h ω),(aH (aH (aH k1))),rfl,rfl,rfl⟩)
 by_cases e:op=15
 ·have hu:kC op=[true,false,false,true]:=by unfold kC;repeat(first|rw [if_pos ω]|rw [if_neg ω])
  have hj:¬eF op:=by unfold eF;omega
  rw [aJ hj] at fj;rw [hu] at fu;refine qX rX fun W S b0 hb0=>?_;refine aO (f1) ?_;refine aF (fu) ?_;refine aO (n8 p k1) ?_;refine aF (fj) ?_;refine aO (nn (aB l p) (aH k1)) ?_;refine dE hb0 rX ?_
  (exact⟨⟨_,_,_,_,_⟩,_,sZ hu ⟨h0,ω⟩ (d8 _) z8 z8 ⟨(dn _).1,by have:=(dn (aB l p)).2;omega⟩ (fun h=>by cases h) (fun _=>rfl) (fun _=>rfl) (fun h=>by cases h) (fun _=>(dn _).2) (fun h=>absurd h ω),aH (aH k1),rfl,rfl,rfl⟩)
 by_cases e:op=16∨op=17
 ·have hu:kC op=[true,true,false,true]:=by unfold kC;repeat(first|rw [if_pos ω]|rw [if_neg ω])
  have hj:¬eF op:=by unfold eF;omega
  rw [aJ hj] at fj;rw [hu] at fu;have hw0:=xet l (aB l (aB l p));refine qX rX fun W S b0 hb0=>?_;refine aO (f1) ?_;refine aF (fu) ?_;refine aO (n8 p k1) ?_;refine aO (n8 (aB l p) (aH k1)) ?_;refine aF (fj) ?_;refine aO (nw (aB l (aB l p)) (aH (aH k1))) ?_;refine dE hb0 rX ?_
  (exact⟨⟨_,_,_,_,_⟩,_,sZ hu ⟨h0,ω⟩ (d8 _) (d8 _) z8 (dw _) (fun h=>by cases h) (fun h=>by cases h) (fun _=>rfl) (fun h=>by cases h) (fun h=>absurd h ω) (fun h=>absurd h ω),aH (aH (aH (aH k1))),rfl,rfl,rfl⟩)
 by_cases e:op=18
 ·have hu:kC op=[false,false,false,true]:=by unfold kC;repeat(first|rw [if_pos ω]|rw [if_neg ω])
  have hj:eF op:=by unfold eF;omega
  rw [aN hj] at fj;rw [hu] at fu;refine qX rX fun W S b0 hb0=>?_;refine aO (f1) ?_;refine jC fu fj ?_;refine aO (nm p k1) ?_;refine dE hb0 rX ?_
  (exact⟨⟨_,_,_,_,_⟩,_,sZ hu ⟨h0,ω⟩ z8 z8 z8 ⟨(dm _).1,by have:=(dm p).2;omega⟩ (fun _=>rfl) (fun _=>rfl) (fun _=>rfl) (fun h=>by cases h) (fun h=>absurd h ω) (fun h=>absurd h ω),aH k1,rfl,rfl,rfl⟩)
 by_cases e:op=19∨op=20∨op=21
 ·have hu:kC op=[true,false,false,true]:=by unfold kC;repeat(first|rw [if_pos ω]|rw [if_neg ω])
  have hj:eF op:=by unfold eF;omega
  rw [aN hj] at fj;rw [hu] at fu;refine qX rX fun W S b0 hb0=>?_;refine aO (f1) ?_;refine aF (fu) ?_;refine aO (n8 p k1) ?_;refine aF (fj) ?_;refine aO (nm (aB l p) (aH k1)) ?_;refine dE hb0 rX ?_
  (exact⟨⟨_,_,_,_,_⟩,_,sZ hu ⟨h0,ω⟩ (d8 _) z8 z8 ⟨(dm _).1,by have:=(dm (aB l p)).2;omega⟩ (fun h=>by cases h) (fun _=>rfl) (fun _=>rfl) (fun h=>by cases h) (fun h=>absurd h ω) (fun h=>absurd h ω),aH (aH k1),rfl,rfl,rfl⟩)
 by_cases e:op=22
 ·have hu:kC op=[true,false,false,false]:=by unfold kC;repeat(first|rw [if_pos ω]|rw [if_neg ω])
  have hj:¬eF op:=by unfold eF;omega
  rw [aJ hj] at fj;rw [hu] at fu;refine qX rX fun W S b0 hb0=>?_;refine aO (f1) ?_;refine aF (fu) ?_;refine aO (n8 p k1) ?_;refine aF (fj) ?_;refine dE hb0 rX ?_
  (exact⟨⟨_,_,_,_,_⟩,_,sZ hu ⟨h0,ω⟩ (d8 _) z8 z8 zi (fun h=>by cases h) (fun _=>rfl) (fun _=>rfl) (fun _=>rfl) (fun h=>absurd h ω) (fun h=>absurd h ω),(aH k1),rfl,rfl,rfl⟩)
 by_cases e:op=23
 ·have hu:kC op=[false,false,false,true]:=by unfold kC;repeat(first|rw [if_pos ω]|rw [if_neg ω])
  have hj:¬eF op:=by unfold eF;omega
  rw [aJ hj] at fj;rw [hu] at fu;refine qX rX fun W S b0 hb0=>?_;refine aO (f1) ?_;refine jC fu fj ?_;refine aO (n16 p k1) ?_;refine dE hb0 rX ?_
  (exact⟨⟨_,_,_,_,_⟩,_,sZ hu ⟨h0,ω⟩ z8 z8 z8 ⟨(d16 _).1,by have:=(d16 p).2;omega⟩ (fun _=>rfl) (fun _=>rfl) (fun _=>rfl) (fun h=>by cases h) (fun h=>absurd h ω) (fun _=>by have:=(d16 p).2;omega),aH k1,rfl,rfl,rfl⟩)
 omega
end Go.Proofs.YthmjocibdepahaaGreat
