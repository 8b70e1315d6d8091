import Derived.Test.YthmjocibdepahaaGreatA20
import Derived.Test.YthmjocibdepahaaGreatA12
set_option linter.defProp false
set_option linter.unusedSimpArgs false
set_option linter.unusedVariables false
set_option maxHeartbeats 64000000
set_option maxRecDepth 100000
namespace Go.Proofs.YthmjocibdepahaaGreat
open Go Go.RowKit Rdn Rdn.Dp
def ya4:=aC 150
def yab:=aC 31
def xy2:=aC 30
def ynv:=zcs 86
def ynl:=aC 32
def xqs:=aC 88
def xln:=aC 34
def xz9:=zcs 81
def xlt:=aC 28
def xyn:=aC 157
theorem yeg (s:List Int) (h:oO s):Fnc Tryz.prog 150 [.sl false 1 (bH s)] (fun x obs=>x=.bool true∧obs=[]):=by
 have h2:=h.2.1;have h3:=h.2.2;refine aI ya4 fun W S=>?_;refine bI [0,5,6] (fun p:{p:Nat // p≤s.length}=>[(7,.int .i64 p.1)]) (fun _=>[]) (fun p=>s.length-p.1) (⟨0,by simp⟩) 0 ?_;intro J hJ
 rintro⟨k,hk0⟩
 by_cases hlt:k<s.length
 ·have h4:=xU h hlt
  refine aA ?_;exact nP (hJ _ (⟨k+1,hlt⟩) ψ) hlt
 obtain rfl:k=s.length:=ω;refine aA ?_;exact aU ya4
theorem xt5 {s:List Int} {k:Nat} (h:k<s.length):iY (s.take (k+1))=iY (s.take k)+s[k]!:=by
 have key:∀(l:List Int) (k:Nat),k<l.length→iY (l.take (k+1))=iY (l.take k)+l[k]!:=by
  intro l
  induction l with
  |nil=>intro k h;simp at h
  |cons n l ih=>
   intro k h;cases k with
   |zero=>simp [iY]
   |succ k=>
    have:=ih k (by simpa using h);simp only [List.take_succ_cons,iY,List.getElem!_cons_succ];omega
 exact key s k h
theorem xt4 {s:List Int} (h:oO s) (k:Nat) (hk:k≤s.length):0≤iY (s.take k)∧iY (s.take k)≤32*k:=by
 induction k with
 |zero=>simp [iY]
 |succ k ih=>
  have h1:=ih ω;have h2:=xU h (k:=k) ω;rw [xt5 ω];omega
theorem ywr (s:List Int) (h:oO s):Fnc Tryz.prog 31 [.sl false 1 (bH s)] (fun x obs=>x=.int .i64 (iY s)∧obs=[]):=by
 have h3:=h.2.2;refine aI yab fun W S=>?_;refine gY [6,7] (fun p:{p:Nat // p≤s.length}=>[(3,.int .i64 (iY (s.take p.1))),(8,.int .i64 p.1)]) (fun _=>[]) (fun p=>s.length-p.1) (⟨0,by simp⟩) 0 τ ?_ (by first|rfl|(simp only [go_sem];done)|(simp only [go_sem];simp [iY];done)) ξ φ φ (by first|rfl|(simp only [go_sem];done)|(simp only [iY];(try simp only [go_sem]);first|done|rfl)) ?_
 ·(simp only [go_sem];(try simp [iY]);done)
 intro J hJ
 rintro⟨k,hk0⟩
 have hb:=xt4 h k hk0;by_cases hlt:k<s.length
 ·have h4:=xU h hlt
  have ht:=xt5 hlt;refine aA ?_;exact nP (hJ _ (⟨k+1,hlt⟩) ψ) ht
 obtain rfl:k=s.length:=ω;rw [List.take_length];refine aA ?_;exact aU yab
theorem xo2 {s:List Int} {k:Nat} (hk:k<s.length) (j:Int):vZ (s.drop k) k j=if 0≤j∧j<s[k]! then some ((k:Int),j) else vZ (s.drop (k+1)) ((k+1:Nat):Int) (j-s[k]!):=by
 rw [List.drop_eq_getElem_cons hk];simp only [vZ];simp [hk]
theorem xtw {s:List Int} (h:oO s) {i:Int} (h0:0≤i) (h1:i<iY s):∃q,vZ s 0 i=some q∧nG s q.1 q.2:=by
 have key:∀(n k:Nat) (j:Int),k+n=s.length→0≤j→j<iY (s.drop k)→∃q,vZ (s.drop k) k j=some q∧nG s q.1 q.2:=by
  intro n
  induction n with
  |zero=>intro k j hk h0 h1;rw [show k=s.length by omega,List.drop_length] at h1;simp [iY] at h1;omega
  |succ n ih=>
   intro k j hk h0 h1;have hlt:k<s.length:=ω;rw [xo2 hlt];by_cases c:0≤j∧j<s[k]!
   ·rw [if_pos c]
    exact⟨_,rfl,by simp,by simp;omega,c.1,by simpa using c.2⟩
   ·rw [if_neg c]
    refine ih (k+1) _ ω ω ?_;rw [List.drop_eq_getElem_cons hlt] at h1;simp only [iY] at h1;rw [getElem!_pos s k hlt];omega
 simpa using key s.length 0 i ω h0 (by simpa using h1)
theorem yg6 (s:List Int) (h:oO s) (i:Int) (h0:0≤i) (h1:i≤65535) (q:Int×Int) (hq:vZ s 0 i=some q):Fnc Tryz.prog 30 [.sl false 1 (bH s),.int .i64 i] (fun x obs=>x=.tup [lU q,.int .i64 0]∧obs=[]):=by
 have h3:=h.2.2;refine aI xy2 fun W S=>?_;refine bI [4,10,11] (fun p:{p:Nat×Int // p.1≤s.length∧0≤p.2∧p.2≤65535∧vZ s 0 i=vZ (s.drop p.1) p.1 p.2}=>[(1,.int .i64 p.1.2),(12,.int .i64 p.1.1)]) (fun _=>[⟨.box false 120,true,0,lU (0,0)⟩]) (fun p=>s.length-p.1.1) (⟨(0,i),by simp,h0,h1,rfl⟩) 1 ?_;intro J hJ
 rintro⟨⟨k,j⟩,hk0,hj0,hj1,hk1⟩
 dsimp only at hk0 hj0 hj1 hk1;by_cases hlt:k<s.length
 ·have h4:=xU h hlt
  rw [xo2 hlt,hq] at hk1;by_cases c:j<s[k]!
  ·rw [if_pos ⟨hj0,c⟩] at hk1
   obtain rfl:=Option.some.inj hk1;refine aA ?_;exact aU xy2
  ·rw [if_neg (fun e=>c e.2)] at hk1
   refine aA ?_;exact jH (hJ _ (⟨(k+1,j-s[k]!),hlt,by show(0:Int)≤j-s[k]!;omega,by show j-s[k]!≤(65535:Int);omega,hq.trans hk1⟩) ψ) hlt
 obtain rfl:k=s.length:=ω;rw [List.drop_length,hq] at hk1;cases hk1
theorem ymf (s:List Int) (r o:Int) (h:nG s r o):Fnc Tryz.prog 86 [.sl false 1 (bH s),lU (r,o)] (fun x obs=>x=.bool true∧obs=[]):=by
 refine Fnc.wf fun hw=>?_;simp only [V.wfs,V.wf,lW,List.length_map] at hw;have hm:=hw.1.2;obtain⟨h0,h1,h2,h3⟩:=h;obtain⟨k,rfl⟩:∃k:Nat,r=k:=⟨r.toNat,ω⟩;have hk:k<s.length:=ω;rw [Int.toNat_natCast] at h3;clear hw;exact aZ ynv
theorem xtj (l:PLay) (s:List Int) (r o:Int) (h:jW l s) (hi:nG s r o):Fnc Tryz.prog 32 [dQ false l,.sl false 1 (bH s),lU (r,o)] (fun x obs=>x=.tup [.int .i64 (l.bases[r.toNat]!+o),.int .i64 0]∧obs=[]):=by
 have f:=ymf s r o hi;have hb:=h.2.1;obtain⟨h0,h1,h2,h3⟩:=hi;obtain⟨k,rfl⟩:∃k:Nat,r=k:=⟨r.toNat,ω⟩;rw [Int.toNat_natCast] at h3⊢;have h4:=rG h (k:=k) ω;exact eY ynl f
theorem ycy (l:PLay) (s:List Int) (a:Int) (h:jW l s) (ha:0≤a∧a≤65535) (q:Option (Int×Int)) (hq:jR l.bases s 0 a=q):Fnc Tryz.prog 88 [dQ false l,.sl false 1 (bH s),.int .i64 a] (fun x obs=>x=.tup [lU (q.getD (0,0)),.bool q.isSome]∧obs=[]):=by
 have hb:=h.2.1;have hs4:=h.1.2.2;refine aI xqs fun W S=>?_;refine bI [1,2,6,11,12] (fun p:{p:Nat // p≤s.length∧jR l.bases s 0 a=jR (l.bases.drop p) (s.drop p) p a}=>[(13,.int .i64 p.1)]) (fun _=>[⟨.box false 33,true,0,dQ false l⟩,⟨.box false 120,true,0,lU (0,0)⟩]) (fun p=>s.length-p.1) (⟨0,by simp,rfl⟩) 2 ?_;intro J hJ
 rintro⟨k,hk0,hk1⟩
 by_cases hlt:k<s.length
 ·have h4:=rG h hlt
  have hu:=xn0 hlt hb a;by_cases c:l.bases[k]!≤a∧a<l.bases[k]!+s[k]!
  ·rw [←hk1,hq,if_pos c] at hu
   subst hu;refine aA ?_;exact aU xqs
  ·rw [if_neg c] at hu
   by_cases c1:l.bases[k]!≤a
   ·refine aA ?_
    exact vW (hJ _ (⟨k+1,hlt,hk1.trans hu⟩) ψ) hlt
   ·refine aA ?_
    exact vW (hJ _ (⟨k+1,hlt,hk1.trans hu⟩) ψ) hlt
 obtain rfl:k=s.length:=ω;rw [xn1 hb,hq] at hk1;subst hk1;refine aA ?_;exact aU xqs
theorem xuv (l:PLay) (s:List Int) (c:Cell) (h:jW l s) (hc:iW c):Fnc Tryz.prog 34 [dQ false l,.sl false 1 (bH s),bC c] (fun x obs=>x=aS (jD l s c)∧obs=[]):=by
 obtain⟨t,v⟩:=c;obtain⟨h0,h1,h2,h3⟩:=hc;dsimp only at h0 h1 h2 h3;by_cases c0:t=0
 ·subst c0
  exact aZ xln
 by_cases c2:t=2
 ·subst c2
  exact aZ xln
 have ht:t=1:=ω;subst ht;cases hq:jR l.bases s 0 v with
 |none=>
  have hr:jD l s ⟨1,v⟩=⟨1,0,-1,v⟩:=by simp [jD,hq]
  have f:=ycy l s v h ⟨h2,h3⟩ _ hq;rw [hr];exact eY xln f
 |some q=>
  obtain⟨r,o⟩:=q;have hr:jD l s ⟨1,v⟩=⟨1,0,r,o⟩:=by simp [jD,hq]
  have f:=ycy l s v h ⟨h2,h3⟩ _ hq;rw [hr];exact eY xln f
theorem ynk (l:PLay) (s:List Int) (h:jW l s):Fnc Tryz.prog 81 [dQ false l,.sl false 1 (bH s)] (fun x obs=>x=.bool true∧obs=[]):=by
 have f:=yeg s h.1;have hb:=h.2.1;have hs4:=h.1.2.2;refine iR xz9 f fun W S=>?_;refine bI [1,2,20,21] (fun p:{p:Nat // p≤s.length}=>[(22,.int .i64 p.1)]) (fun _=>[⟨.box false 33,true,0,dQ false l⟩]) (fun p=>s.length-p.1) (⟨0,by simp⟩) 1 ?_;intro J hJ
 rintro⟨k,hk0⟩
 by_cases hlt:k<s.length
 ·have h4:=rG h hlt
  have hJ0:=hJ;refine aA ?_;refine bI [1,2,5,6,20,21,22,42] (fun p:{p:Nat // p≤k}=>[(43,.int .i64 p.1)]) (fun _=>[⟨.box false 33,true,0,dQ false l⟩]) (fun p=>k-p.1) (⟨0,by simp⟩) 1 ?_;intro J hJ
  rintro⟨j,hj0⟩
  by_cases hlj:j<k
  ·have h5:=rG h (k:=j) ω
   have h6:=(h.2.2 k hlt).2.2 j hlj;by_cases c:l.bases[k]!≤l.bases[j]!+s[j]!
   ·refine aA ?_
    exact jH (hJ _ (⟨j+1,hlj⟩) ψ) hlj
   ·refine aA ?_
    exact jH (hJ _ (⟨j+1,hlj⟩) ψ) hlj
  ·have hJ:=hJ0
   refine aA ?_;exact jH (hJ _ (⟨k+1,hlt⟩) ψ) hlt
 obtain rfl:k=s.length:=ω;refine aA ?_;exact aU xz9
theorem xgz (v n:Int) (hn:1≤n):Fnc Tryz.prog 28 [.int .i64 v,.int .i64 n] (fun x obs=>x=.int .i64 (v % n)∧obs=[]):=by
 refine Fnc.wf fun hw=>?_;simp only [V.wfs,V.wf] at hw;have hb:=xpw hw.2.1;have h1:=Int.emod_nonneg v (show n≠0 by omega);have h2:=Int.emod_lt_of_pos v (show 0<n by omega);clear hw;by_cases h:v.tmod n<0
 ·have e:=yem (show 0<n by omega) h
  refine aI xlt fun W S=>?_;exact aX xlt e
 ·have e:=yen (show 0<n by omega) h
  refine aI xlt fun W S=>?_;exact aX xlt e
def qM (c:Cell):Bool:=decide (2<c.tag)
theorem xty {l:List Cell} (h:nX l):l.any qM=false:=List.any_eq_false.2 fun c hc=>by
 have:=(h c hc).2.1;simp [qM];omega
theorem xv3 (c:Cell):Fnc Tryz.prog 157 [bC c] (fun x obs=>x=.bool (!qM c)∧obs=[]):=by
 by_cases h:2<c.tag
 ·rw [show qM c=true from aN h]
  exact aZ xyn
 ·rw [show qM c=false from aJ h]
  exact aZ xyn
def xz1:=aC 189
def ynt:=aC 208
def xlu:=aC 210
def yns:=aC 209
def xz0:=zcs 188
def xya:=aC 149
def yo0:=aC 80
def yod:=aC 154
def yad:=aC 156
def yaf:=aC 85
def xzb:=aC 190
def ynx:=aC 151
def xqm:=aC 152
def xzi:=aC 82
def yo6:=aC 84
def yo7:=aC 27
def xgu:=aC 191
def xlo:=aC 155
def xqk:=aC 153
def xyg:=aC 83
theorem xxb (op:Int):Fnc Tryz.prog 189 [.int .i64 op] (fun x obs=>x=.bool (decide (eF op))∧obs=[]):=by
 by_cases h:eF op
 ·rw [aN h]
  rcases h with rfl|rfl|rfl|rfl
  all_goals
   exact aZ xz1
 ·rw [aJ h]
  unfold eF at h;exact aZ xz1
theorem ylk (op:Int) (h0:0≤op) (h1:op≤24):Fnc Tryz.prog 208 [.int .i64 op] (fun x obs=>x=.agg ((kC op).map V.bool)∧obs=[]):=by
 rcases ybi h0 h1 with rfl|rfl|rfl|rfl|rfl|rfl|rfl|rfl|rfl|rfl|rfl|rfl|rfl|rfl|rfl|rfl|rfl|rfl|rfl|rfl|rfl|rfl|rfl|rfl|rfl<;>clear h0 h1
 all_goals
  exact aZ ynt
def xh0 (op:Int):Int:=if eF op then 63 else if op=15 then 3 else if op=23 then 15 else 65535
theorem yp8 (op:Int):Fnc Tryz.prog 210 [.int .i64 op] (fun x obs=>x=.int .i64 (xh0 op)∧obs=[]):=by
 have f:=xxb op;by_cases h:eF op
 ·rw [aN h] at f
  rw [xh0,if_pos h];exact eY xlu f
 rw [aJ h] at f;rw [xh0,if_neg h];by_cases h2:op=15
 ·rw [if_pos h2]
  exact eY xlu f
 rw [if_neg h2];by_cases h3:op=23
 ·rw [if_pos h3]
  exact eY xlu f
 rw [if_neg h3];exact eY xlu f
theorem xky (u:Bool) (v m:Int) (h:v=0∨u=true∧0<v∧v≤m):Fnc Tryz.prog 209 [.bool u,.int .i64 v,.int .i64 m] (fun x obs=>x=.bool true∧obs=[]):=by
 rcases h with rfl|⟨rfl,h1,h2⟩
 all_goals
  exact aZ yns
theorem ymh (i:PInstr) (h:xjd i):Fnc Tryz.prog 188 [nT i] (fun x obs=>x=.bool true∧obs=[]):=by
 obtain⟨h0,h1,⟨a0,a1,a2⟩,⟨b0,b1,b2⟩,⟨c0,c1,c2⟩,⟨d0,d1,d2⟩,hj,hl,hs⟩:=h;obtain⟨op,a,b,c,imm⟩:=i;dsimp only at h0 h1 a0 a1 a2 b0 b1 b2 c0 c1 c2 d0 d1 d2 hj hl hs;have f:=ylk op h0 h1;have g:=yp8 op;obtain⟨u0,u1,u2,u3,hu⟩:=yf2 op;rw [hu] at f a2 b2 c2 d2;simp only [List.getElem!_cons_zero,List.getElem!_cons_succ] at a2 b2 c2 d2;simp only [List.map_cons,List.map_nil] at f;have us:∀{u:Bool} {v m:Int},0≤v→v≤m→(u=false→v=0)→(v=0∨u=true∧0<v∧v≤m):=fun {u v m} p q r=>by
  cases u with
  |false=>exact .inl (r rfl)
  |true=>by_cases e:v=0;exact .inl e;exact .inr ⟨rfl,ω,q⟩
 have hm:imm≤xh0 op:=by
  unfold xh0;split
  ·rename_i j;have:=hj j;omega
  split
  ·rename_i j;have:=hl j;omega
  split
  ·rename_i j;exact hs j
  ·exact d1
 refine iR xz0 f fun W S=>?_;refine mW (xky u0 a 7 (us a0 ω a2)) ?_;refine mW (xky u1 b 7 (us b0 ω b2)) ?_;refine mW (xky u2 c 7 (us c0 ω c2)) ?_;refine aF (g) ?_;refine mW (xky u3 imm (xh0 op) (us d0 hm d2)) ?_;exact aU xz0
theorem yhi (p:PProg) (h:okProg p):Fnc Tryz.prog 149 [dM false p] (fun x obs=>x=.int .i64 0∧obs=[]):=by
 obtain⟨h1,h2,h3,h4,h5,h6⟩:=h;have f:=yeg p.sizes h1;have hs4:=h1.2.2;refine iR xya f fun W S=>?_;refine bI [1,22,23] (fun q:{q:Nat // q≤p.data.length}=>[(24,.int .i64 q.1)]) (fun _=>[⟨.box false 30,true,0,dM false p⟩]) (fun q=>p.data.length-q.1) (⟨0,by simp⟩) 1 ?_;intro J hJ
 rintro⟨k,hk0⟩
 by_cases hlt:k<p.data.length
 ·have h7:=h3 k ω
  refine aA ?_;exact jH (hJ _ (⟨k+1,hlt⟩) ψ) hlt
 obtain rfl:k=p.data.length:=ω;refine aA ?_;refine bI [1,49,50] (fun q:{q:Nat // q≤p.code.length}=>[(51,.int .i64 q.1),(5,.int .i64 0)]) (fun _=>[⟨.box false 30,true,0,dM false p⟩]) (fun q=>p.code.length-q.1) (⟨0,by simp⟩) 1 ?_;intro J hJ
 rintro⟨k,hk0⟩
 by_cases hlt:k<p.code.length
 ·obtain⟨g0,g1,g2⟩:=xg4 ⟨h1,h2,h3,h4,h5,h6⟩ hlt
  have g:=ymh p.code[k]! g0;have gj:=xxb p.code[k]!.op;by_cases j:eF p.code[k]!.op
  ·rw [aN j] at gj
   have j1:=g1 j;have j2:p.code[k]!.op≠15:=by unfold eF at j;omega
   refine aA ?_;refine jC g gj ?_;exact jH (hJ _ (⟨k+1,hlt⟩) ψ) hlt
  ·rw [aJ j] at gj
   by_cases c:p.code[k]!.op=15
   ·have j1:=g2 c
    refine aA ?_;refine jC g gj ?_;exact jH (hJ _ (⟨k+1,hlt⟩) ψ) hlt
   ·refine aA ?_
    refine jC g gj ?_;exact jH (hJ _ (⟨k+1,hlt⟩) ψ) hlt
 obtain rfl:k=p.code.length:=ω;refine aA ?_;exact aU xya
theorem yr3 (p:PProg) (h:okProg p):Fnc Tryz.prog 80 [dM false p] (fun x obs=>x=.int .i64 0∧obs=[]):=by
 exact eY yo0 (yhi p h)
theorem xhk (v a b:Int) (h1:a≤v) (h2:v≤b):Fnc Tryz.prog 154 [.int .i64 v,.int .i64 a,.int .i64 b] (fun x obs=>x=.bool true∧obs=[]):=by
 exact aZ yod
theorem yww (c:Cell):Fnc Tryz.prog 156 [bC c] (fun x obs=>x=.bool (qM c)∧obs=[]):=by
 refine iR yad (xv3 c) fun W S=>?_;refine ret yad [] ?_;(first|(simp only [go_sem];done)|(simp only [go_sem];((try dsimp only);(repeat' (refine And.intro ?_ ?_))<;>first|with_reducible rfl|(simp only [go_sem];done)|(simp only [go_sem];rfl)|(simp only [go_sem,Bool.not_not];done)|(simp only [Bool.not_not];(try simp only [go_sem]);first|done|rfl)|(simp only [go_sem];simp [Bool.not_not];done)|(simp [Bool.not_not];done)|rfl)))
theorem yop (c:Cell):Fnc Tryz.prog 190 [bC c] (fun x obs=>x=.bool (qM c)∧obs=[]):=by
 refine iR xzb (xv3 c) fun W S=>?_;refine ret xzb [] ?_;(first|(simp only [go_sem];done)|(simp only [go_sem];((try dsimp only);(repeat' (refine And.intro ?_ ?_))<;>first|with_reducible rfl|(simp only [go_sem];done)|(simp only [go_sem];rfl)|(simp only [go_sem,Bool.not_not];done)|(simp only [Bool.not_not];(try simp only [go_sem]);first|done|rfl)|(simp only [go_sem];simp [Bool.not_not];done)|(simp [Bool.not_not];done)|rfl)))
theorem ymm (l:List Cell):Fnc Tryz.prog 191 [.sl false 2 (l.map bC),.fn 156] (fun x obs=>x=.int .i64 (rV qM l)∧obs=[]):=by
 refine Fnc.wf fun hw=>?_;have hm:l.length≤140737488355328:=by
  have:=hw.1;simp only [V.wf,List.length_map] at this;exact this.2
 clear hw;refine aI xgu fun W S=>?_;refine bI [0,1,7] (fun p:{p:Nat // p≤l.length∧∀j,j<p→qM l[j]! =false}=>[(8,.int .i64 p.1)]) (fun _=>[]) (fun p=>l.length-p.1) (⟨0,by simp⟩) 0 ?_;intro J hJ
 rintro⟨k,hk0,hk1⟩
 by_cases hlt:k<l.length
 ·have hc:=yww l[k]!
  cases hb:qM l[k]! with
  |true=>
   rw [hb] at hc;have hr:=xcp (p:=qM) hlt hk1 hb;refine aA ?_;refine mW (hc) ?_;exact aX xgu hr
  |false=>
   rw [hb] at hc;have hS:∀j,j<k+1→qM l[j]! =false:=fun j hj=>by
    by_cases e:j=k
    ·subst e;exact hb
    ·exact hk1 j ω
   refine aA ?_;refine mW (hc) ?_;exact nP (hJ _ (⟨k+1,hlt,hS⟩) ψ) hlt
 ·obtain rfl:k=l.length:=ω
  have hr:=xdv (p:=qM) hk1;refine aA ?_;exact aX xgu hr
theorem yi7 (l:List Cell):Fnc Tryz.prog 155 [.sl false 2 (l.map bC),.fn 156] (fun x obs=>x=.bool (l.any qM)∧obs=[]):=by
 have hr:=xey qM l;refine iR xlo (ymm l) fun W S=>?_;exact aX xlo hr
theorem ymj (l:List Cell):Fnc Tryz.prog 191 [.sl false 2 (l.map bC),.fn 190] (fun x obs=>x=.int .i64 (rV qM l)∧obs=[]):=by
 refine Fnc.wf fun hw=>?_;have hm:l.length≤140737488355328:=by
  have:=hw.1;simp only [V.wf,List.length_map] at this;exact this.2
 clear hw;refine aI xgu fun W S=>?_;refine bI [0,1,7] (fun p:{p:Nat // p≤l.length∧∀j,j<p→qM l[j]! =false}=>[(8,.int .i64 p.1)]) (fun _=>[]) (fun p=>l.length-p.1) (⟨0,by simp⟩) 0 ?_;intro J hJ
 rintro⟨k,hk0,hk1⟩
 by_cases hlt:k<l.length
 ·have hc:=yop l[k]!
  cases hb:qM l[k]! with
  |true=>
   rw [hb] at hc;have hr:=xcp (p:=qM) hlt hk1 hb;refine aA ?_;refine mW (hc) ?_;exact aX xgu hr
  |false=>
   rw [hb] at hc;have hS:∀j,j<k+1→qM l[j]! =false:=fun j hj=>by
    by_cases e:j=k
    ·subst e;exact hb
    ·exact hk1 j ω
   refine aA ?_;refine mW (hc) ?_;exact nP (hJ _ (⟨k+1,hlt,hS⟩) ψ) hlt
 ·obtain rfl:k=l.length:=ω
  have hr:=xdv (p:=qM) hk1;refine aA ?_;exact aX xgu hr
theorem yhu (l:List Cell):Fnc Tryz.prog 155 [.sl false 2 (l.map bC),.fn 190] (fun x obs=>x=.bool (l.any qM)∧obs=[]):=by
 have hr:=xey qM l;refine iR xlo (ymj l) fun W S=>?_;exact aX xlo hr
theorem yer (x:PThr) (h:okThr 1099511627776 x):Fnc Tryz.prog 85 [dW false x] (fun y obs=>y=.bool true∧obs=[]):=by
 obtain⟨h1,h2,h3,h4,h5,h6,h7,h8,h9,h10,h11,h12,h13,h14⟩:=h;have fc:=yi7 x.regs;rw [xty h1] at fc;refine aI yaf fun W S=>?_;refine mW (xhk x.state 0 4 h2 h3) ?_;refine aF (fc) ?_;refine mW (xhk x.pc 0 255 h5 h6) ?_;refine mW (xhk x.count 0 1099511627776 h7 h8) ?_;refine mW (xhk x.handler (-1) 255 h9 h10) ?_;refine mW (xhk x.saved (-1) 255 h11 h12) ?_;refine mW (xhk x.trap 0 6 h13 h14) ?_;exact aU yaf
theorem yam (l:List Cell) (n:Int) (h:nX l) (hn:(l.length:Int)=n):Fnc Tryz.prog 151 [.sl false 2 (l.map bC),.int .i64 n] (fun x obs=>x=.bool true∧obs=[]):=by
 have fc:=yhu l;rw [xty h] at fc;exact eY ynx fc
theorem yp2 (i:Nat) (x:PLine) (hi:i<4) (h:lF i x):Fnc Tryz.prog 152 [.int .i64 i,iM false x] (fun y obs=>y=.bool true∧obs=[]):=by
 unfold lF at h;by_cases c:x.tag=-1
 ·rw [if_pos c] at h
  obtain⟨l1,l2⟩:=h;have l3:x.cells.length=0:=by rw [l2];rfl
  refine aI xqm fun W S=>?_
  repeat(first|(simp only [c,l1];try simp only [go_sem])|refine And.intro ω ?_|refine And.intro rfl ?_|refine gJ rfl rfl ?_|refine bY ?_|refine dI κ ?_|(simp (disch:=omega) only [fJ,Nat.min_eq_left,Nat.min_eq_right,if_pos,if_neg,fF,bW,dU,fH,fM,fK,aN,aJ,dB,dA,dP,dO,Int.toNat_natCast];try simp only [go_sem])|(refine dR rfl ?_ ?_;·(simp<;>omega))|(refine dZ rfl ?_ ?_;·(simp<;>omega))|((first|refine fQ ?_|refine gK rfl ?_|refine mZ rfl ?_|refine jJ aT rfl κ ?_|refine jK aT rfl κ ?_|refine jL aT rfl κ ?_);simp only [go_sem]))
  exact aU xqm
 ·rw [if_neg c] at h
  obtain⟨l1,l2,l3,l4,l5⟩:=h;exact eY xqm (yam x.cells 4 l5 ω)
theorem ypa (m:PMem) (h:nJ m):Fnc Tryz.prog 82 [iU false m] (fun x obs=>x=.bool true∧obs=[]):=by
 obtain⟨h1,h2,h3,h4⟩:=h;refine iR xzi (yam m.cells 512 h3 ω) fun W S=>?_;refine bI [16,17] (fun p:{p:Nat // p≤m.lines.length}=>[(18,.int .i64 p.1)]) (fun _=>[⟨.box false 37,true,0,iU false m⟩]) (fun p=>m.lines.length-p.1) (⟨0,by simp⟩) 1 ?_;intro J hJ
 rintro⟨k,hk0⟩
 by_cases hlt:k<m.lines.length
 ·have g:=yp2 k m.lines[k]! ω (h4 k ω)
  refine aA ?_;refine aF (g) ?_;exact jH (hJ _ (⟨k+1,hlt⟩) ψ) hlt
 obtain rfl:k=m.lines.length:=ω;refine aA ?_;exact aU xzi
def yT (_:PThr):Bool:=false
theorem yw2 (x:PThr) (h:okThr 1099511627776 x):Fnc Tryz.prog 84 [dW false x] (fun y obs=>y=.bool (yT x)∧obs=[]):=by
 rw [show yT x=false from rfl];exact eY yo6 (yer x h)
theorem ypj (l:List PThr):l.any yT=false:=List.any_eq_false.2 fun x _=>by simp [yT]
attribute [local irreducible] yT
theorem yml (l:List PThr) (h:∀x∈l,okThr 1099511627776 x):Fnc Tryz.prog 153 [.sl false 8 (l.map (dW false)),.fn 84] (fun x obs=>x=.int .i64 (rV yT l)∧obs=[]):=by
 refine Fnc.wf fun hw=>?_;have hm:l.length≤140737488355328:=by
  have:=hw.1;simp only [V.wf,List.length_map] at this;exact this.2
 clear hw;refine aI xqk fun W S=>?_;refine bI [0,1,7] (fun p:{p:Nat // p≤l.length∧∀j,j<p→yT l[j]! =false}=>[(8,.int .i64 p.1)]) (fun _=>[]) (fun p=>l.length-p.1) (⟨0,by simp⟩) 0 ?_;intro J hJ
 rintro⟨k,hk0,hk1⟩
 by_cases hlt:k<l.length
 ·have hc:=yw2 l[k]! (h _ (dJ hlt))
  cases hb:yT l[k]! with
  |true=>
   rw [hb] at hc;have hr:=xcp (p:=yT) hlt hk1 hb;refine aA ?_;refine mW (hc) ?_;exact aX xqk hr
  |false=>
   rw [hb] at hc;have hS:∀j,j<k+1→yT l[j]! =false:=fun j hj=>by
    by_cases e:j=k
    ·subst e;exact hb
    ·exact hk1 j ω
   refine aA ?_;refine mW (hc) ?_;exact nP (hJ _ (⟨k+1,hlt,hS⟩) ψ) hlt
 ·obtain rfl:k=l.length:=ω
  have hr:=xdv (p:=yT) hk1;refine aA ?_;exact aX xqk hr
theorem yi6 (l:List PThr) (h:∀x∈l,okThr 1099511627776 x):Fnc Tryz.prog 83 [.sl false 8 (l.map (dW false)),.fn 84] (fun x obs=>x=.bool (l.any yT)∧obs=[]):=by
 have hr:=xey yT l;refine iR xyg (yml l h) fun W S=>?_;exact aX xyg hr
theorem yw3 (p:PProg) (m:PMach) (h:okMach p 1099511627776 m):Fnc Tryz.prog 27 [dM false p,eG false m] (fun x obs=>x=.bool true∧obs=[]):=by
 have h4:=h.n;have fc:=yi6 m.thr h.thr;rw [ypj] at fc;exact zG4 yo7 (yr3 p h.prog) (ynk m.lay p.sizes h.lay) (ypa m.mem h.mem) fc
end Go.Proofs.YthmjocibdepahaaGreat
namespace Go.Proofs.YthmjocibdepahaaGreat
open Go Go.RowKit Rdn Rdn.Dp
def xzp:=aC 52
def xlw:=aC 113
def xzo:=aC 51
def jA (n:Nat) (v:Int):List Int:=(List.range n).map fun(i:Nat)=>v.fdiv (2 ^ (8*((n:Int)-1-i)).toNat) % 256
theorem xba (n:Nat) (v:Int):(jA n v).length=n:=by simp [jA]
theorem yrq (n:Nat) (v:Int) (k:Nat) (hk:k<n):(jA n v).take (k+1)=(jA n v).take k++[v.fdiv (2 ^ (8*((n:Int)-1-k)).toNat) % 256]:=by
 rw [List.take_add_one];have:(jA n v)[k]?=some (v.fdiv (2 ^ (8*((n:Int)-1-k)).toNat) % 256):=by
  simp [jA,List.getElem?_range hk]
 rw [this];rfl
theorem xhb (b:List Int) (n:Nat) (v:Int) (hn:n≤8) (hb:b.length+n≤1000000000):FncA Tryz.prog 52 5 1 (nO b) [.int .i64 n,.int .i64 v] (· =nO (b++jA n v)):=by
 refine zgA xzp fun W S v0=>?_;refine bI [2] (fun p:{p:Nat // p≤n}=>[(0,.own 0 p.1),(1,.int .i64 ((n:Int)-1-p.1))]) (fun p=>[⟨.rows true 5,true,p.1,.arr 1 (nO (b++(jA n v).take p.1))⟩]) (fun p=>n-p.1) (⟨0,by simp⟩) 1 ?_;intro J hJ
 rintro⟨k,hk0⟩
 by_cases hlt:k<n
 ·have hs:=yrq n v k hlt
  have hg:(n:Int)-1-((k+1:Nat):Int)=(n:Int)-1-k-1:=ω;refine aA ?_;exact jH (hJ _ (⟨k+1,hlt⟩) ψ) (And.intro hs (hg))
 ·obtain rfl:k=n:=ω
  have ht:(jA k v).take k=jA k v:=List.take_of_length_le (by simp [xba]);dsimp only;rw [ht];refine aA ?_;exact zra xzp
def zO (c:Canon):List Int:=if c.tag=1 then c.tag::(IntKind.i64.wrap (c.region+1) % 256)::jA 2 c.offset else c.tag::0::jA 2 c.val
def xar (l:List Canon):List Int:=l.flatMap zO
def zS (l:List Canon):List Int:=((l.length:Int) % 256)::xar l
theorem xoj (c:Canon):(zO c).length=4:=by unfold zO;split<;>simp [xba]
theorem xui (l:List Canon):(xar l).length=4*l.length:=by
 induction l with
 |nil=>rfl
 |cons x l ih=>simp only [xar,List.flatMap_cons,List.length_append,xoj,List.length_cons] at ih⊢;omega
theorem yh3 (l:List Canon) (k:Nat) (hk:k<l.length):xar (l.take (k+1))=xar (l.take k)++zO l[k]!:=by
 rw [List.take_add_one,List.getElem?_eq_getElem hk,getElem!_pos l k hk];simp only [xar,Option.toList_some,List.flatMap_append,List.flatMap_cons,List.flatMap_nil,List.append_nil]
theorem xok:xar []=[]:=rfl
theorem ys7 (b:List Int) (c:Canon) (hb:b.length+4≤1000000000):FncA Tryz.prog 113 5 1 (nO b) [aS c] (· =nO (b++zO c)):=by
 refine FncA.wf fun hw=>?_;simp only [V.wfs,V.wf] at hw;have hv:=xbu hw.1.2.1;clear hw;by_cases h:c.tag=1
 ·have e:b++[c.tag]++[IntKind.i64.wrap (c.region+1) % 256]++jA 2 c.offset=b++zO c:=by rw [zO,if_pos h];simp
  have f:=xhb (b++[c.tag]++[IntKind.i64.wrap (c.region+1) % 256]) 2 c.offset δ (by simp;omega);rw [e] at f;refine zgA xlw fun W S v0=>?_;refine Rdn.Dp.zca (f) ?_;exact zra xlw
 ·have e:b++[c.tag]++[0]++jA 2 c.val=b++zO c:=by rw [zO,if_neg h];simp
  have f:=xhb (b++[c.tag]++[0]) 2 c.val δ (by simp;omega);rw [e] at f;refine zgA xlw fun W S v0=>?_;refine Rdn.Dp.zca (f) ?_;exact zra xlw
theorem ycc (b:List Int) (l:List Canon) (hb:b.length+1+4*l.length≤1000000000):FncA Tryz.prog 51 5 1 (nO b) [.sl false 4 (l.map aS)] (· =nO (b++zS l)):=by
 have hz:b++[(l.length:Int) % 256]++xar l=b++zS l:=by simp [zS]
 refine zgA xzo fun W S v0=>?_;refine gY [13,14] (fun p:{p:Nat // p≤l.length}=>[(0,.own 0 (1+p.1)),(15,.int .i64 p.1)]) (fun p=>[⟨.rows true 5,true,1+p.1,.arr 1 (nO (b++[(l.length:Int) % 256]++xar (l.take p.1)))⟩]) (fun p=>l.length-p.1) (⟨0,by simp⟩) 1 τ ?_ (by first|rfl|(simp only [go_sem];done)|(simp only [go_sem];simp [xok];done)) ξ φ φ (by first|rfl|(simp only [go_sem];done)|(simp only [xok];(try simp only [go_sem]);first|done|rfl)) ?_
 ·(simp only [go_sem];(try simp [xok]);done)
 intro J hJ
 rintro⟨p,hp0⟩
 by_cases hlt:p<l.length
 ·have hlen:=xui (l.take p)
  rw [List.length_take,Nat.min_eq_left hp0] at hlen;have hs:(b++[(l.length:Int) % 256]++xar (l.take p)).length+4≤1000000000:=by
   simp only [List.length_append,List.length_cons,List.length_nil];omega
  refine aA ?_;refine Rdn.Dp.zca (ys7 (b++[(l.length:Int) % 256]++xar (l.take p)) l[p]! hs) ?_;have hn:=yh3 l p hlt;have hg:1+p+1=1+(p+1):=ω;exact jH (hJ _ (⟨p+1,hlt⟩) ψ) (And.intro hn (hg))
 ·obtain rfl:p=l.length:=ω
  have ht:l.take l.length=l:=List.take_of_length_le ω;dsimp only;rw [ht,hz];refine aA ?_;exact zra xzo
def xy6:=aC 107
def xy5:=zcs 46
def yob:=aC 109
def xql:=aC 162
def xyh:=aC 108
def yoc:=aC 49
def ya3:=aC 16
theorem ygg:Fnc Tryz.prog 107 [] (fun x obs=>x=eQ 0 thr0∧obs=[iE (List.replicate 8 c0)]):=by
 have hz:(List.replicate 8 c0).map bC=List.replicate 8 (V.agg [.int .u8 0,.int .u16 0]):=by rw [List.map_replicate];rfl
 simp only [iE,hz];refine aI xy6 fun W S=>?_;refine ret xy6 [1] ?_;exact fP
def wV (v:View):PThr:=⟨v.state,List.replicate 8 c0,v.pc,v.count,v.handler,v.saved,v.trap,v.code⟩
theorem xo6 (v:View):Fnc Tryz.prog 46 [oG false v] (fun x obs=>x=dW true (wV v)∧obs=[]):=by
 have fe:=ygg;refine aI xy5 fun W S=>?_;refine dD (fe) ?_;refine ret xy5 [] ?_;(first|(simp only [go_sem];done)|(simp only [go_sem];((try dsimp only);(repeat' (refine And.intro ?_ ?_))<;>first|with_reducible rfl|(simp only [go_sem];done)|(simp only [go_sem];rfl)|(simp only [go_sem,wV];done)|(simp only [wV];(try simp only [go_sem]);first|done|rfl)|(simp only [go_sem];simp [wV];done)|(simp [wV];done)|rfl)))
structure okView (v:View):Prop where
 state:0≤v.state∧v.state≤4
 pc:0≤v.pc∧v.pc≤255
 count:0≤v.count∧v.count≤1099511627776
 handler:-1≤v.handler∧v.handler≤255
 saved:-1≤v.saved∧v.saved≤255
 trap:0≤v.trap∧v.trap≤6
 len:v.regs.length=8
 regs:fD v.regs 8=true
theorem ygt:nX (List.replicate 8 c0):=fun c hc=>by
 rw [List.eq_of_mem_replicate hc];exact⟨δ,δ,δ,δ⟩
theorem yga {v:View} (h:okView v):okThr 1099511627776 (wV v):=⟨ygt,h.state.1,h.state.2,rfl,h.pc.1,h.pc.2,h.count.1,h.count.2,h.handler.1,h.handler.2,h.saved.1,h.saved.2,h.trap.1,h.trap.2⟩
def yU (_:View):Bool:=false
theorem ypk (l:List View):l.any yU=false:=List.any_eq_false.2 fun x _=>by simp [yU]
theorem ywg (v:View) (h:okView v):Fnc Tryz.prog 109 [oG false v] (fun x obs=>x=.bool (yU v)∧obs=[]):=by
 have hl:=h.len;have fc:=yfg v.regs 8;rw [h.regs] at fc;rw [show yU v=false from rfl];exact zG3 yob (xo6 v) (yer (wV v) (yga h)) fc
attribute [local irreducible] yU
theorem ymn (l:List View) (h:∀x∈l,okView x):Fnc Tryz.prog 162 [.sl false 8 (l.map (oG false)),.fn 109] (fun x obs=>x=.int .i64 (rV yU l)∧obs=[]):=by
 refine Fnc.wf fun hw=>?_;have hm:l.length≤140737488355328:=by
  have:=hw.1;simp only [V.wf,List.length_map] at this;exact this.2
 clear hw;refine aI xql fun W S=>?_;refine bI [0,1,7] (fun p:{p:Nat // p≤l.length∧∀j,j<p→yU l[j]! =false}=>[(8,.int .i64 p.1)]) (fun _=>[]) (fun p=>l.length-p.1) (⟨0,by simp⟩) 0 ?_;intro J hJ
 rintro⟨k,hk0,hk1⟩
 by_cases hlt:k<l.length
 ·have hc:=ywg l[k]! (h _ (dJ hlt))
  cases hb:yU l[k]! with
  |true=>
   rw [hb] at hc;have hr:=xcp (p:=yU) hlt hk1 hb;refine aA ?_;refine mW (hc) ?_;exact aX xql hr
  |false=>
   rw [hb] at hc;have hS:∀j,j<k+1→yU l[j]! =false:=fun j hj=>by
    by_cases e:j=k
    ·subst e;exact hb
    ·exact hk1 j ω
   refine aA ?_;refine mW (hc) ?_;exact nP (hJ _ (⟨k+1,hlt,hS⟩) ψ) hlt
 ·obtain rfl:k=l.length:=ω
  have hr:=xdv (p:=yU) hk1;refine aA ?_;exact aX xql hr
theorem yi8 (l:List View) (h:∀x∈l,okView x):Fnc Tryz.prog 108 [.sl false 8 (l.map (oG false)),.fn 109] (fun x obs=>x=.bool (l.any yU)∧obs=[]):=by
 have hr:=xey yU l;refine iR xyh (ymn l h) fun W S=>?_;exact aX xyh hr
theorem ywh (l:List View) (h:∀x∈l,okView x) (hn:l.length=4):Fnc Tryz.prog 49 [.sl false 8 (l.map (oG false))] (fun x obs=>x=.bool true∧obs=[]):=by
 have fc:=yi8 l h;rw [ypk] at fc;exact eY yoc fc
structure okState (s:State):Prop where
 n1:1≤s.regions.length
 n4:s.regions.length≤4
 reg:∀l∈s.regions,1≤l.length∧l.length≤32∧fD l 32=true
 len:s.threads.length=4
 thr:∀v∈s.threads,okView v
def vwB (v:View):List Int:=[v.state,v.pc,v.trap]++jA 6 v.count++jA 2 (v.handler+1)++jA 2 (v.saved+1)++jA 2 v.code++zS v.regs
def tC (l:List (List Canon)):List Int:=l.flatMap zS
def wS (l:List View):List Int:=l.flatMap vwB
def stB (s:State):List Int:=(s.regions.length:Int)::(tC s.regions++wS s.threads)
theorem xhz (l:List Canon):(zS l).length=1+4*l.length:=by simp [zS,xui];omega
theorem yt1 (l:List (List Canon)) (k:Nat) (hk:k<l.length):tC (l.take (k+1))=tC (l.take k)++zS l[k]!:=by
 rw [List.take_add_one,List.getElem?_eq_getElem hk,getElem!_pos l k hk];simp only [tC,Option.toList_some,List.flatMap_append,List.flatMap_cons,List.flatMap_nil,List.append_nil]
theorem yxh (l:List View) (k:Nat) (hk:k<l.length):wS (l.take (k+1))=wS (l.take k)++vwB l[k]!:=by
 rw [List.take_add_one,List.getElem?_eq_getElem hk,getElem!_pos l k hk];simp only [wS,Option.toList_some,List.flatMap_append,List.flatMap_cons,List.flatMap_nil,List.append_nil]
theorem xs2 {l:List (List Canon)} (h:∀x∈l,x.length≤32):(tC l).length≤129*l.length:=by
 induction l with
 |nil=>simp [tC]
 |cons x l ih=>
  have h1:=ih fun y hy=>h y (List.mem_cons_of_mem _ hy);have h2:=h x ξ;have h3:=xhz x;simp only [tC,List.flatMap_cons,List.length_append,List.length_cons] at h1⊢;omega
theorem xta {v:View} (h:v.regs.length=8):(vwB v).length=48:=by
 simp only [vwB,List.length_append,List.length_cons,List.length_nil,xba,xhz,h]
theorem yfb {l:List View} (h:∀x∈l,x.regs.length=8):(wS l).length=48*l.length:=by
 induction l with
 |nil=>simp [wS]
 |cons x l ih=>
  have h1:=ih fun y hy=>h y (List.mem_cons_of_mem _ hy);have h2:=xta (h x ξ);simp only [wS,List.flatMap_cons,List.length_append,List.length_cons] at h1⊢;omega
abbrev qG (s:State):V:=.agg [.sl false 1 (s.regions.map (bD false 4 aS)),.sl false 8 (s.threads.map (oG false))]
theorem yea (s:State) (h:okState s):Fnc Tryz.prog 16 [qG s] (fun x obs=>x=.tup [.sl true 1 (nO (stB s)),.int .i64 0]∧obs=[]):=by
 obtain⟨n1,n4,hr,h4,ht⟩:=h;refine Fnc.wf fun hw=>?_;simp only [qG,V.wfs,V.wf,lW,List.length_map] at hw;have hcode:∀v∈s.threads,jE .u16 v.code:=fun v hv=>(hw.1.2.1.1 v hv).2.2.2.2.2.2.1;clear hw;have ft:=ywh s.threads ht h4;refine iR ya3 ft fun W S=>?_;refine gY [1,31,32] (fun p:{p:Nat // p≤s.regions.length}=>[(4,.own 1 p.1),(33,.int .i64 p.1)]) (fun p=>[⟨.box false 50,true,0,qG s⟩,⟨.row 5,true,p.1,.arr 1 (nO ([(s.regions.length:Int)]++tC (s.regions.take p.1)))⟩]) (fun p=>s.regions.length-p.1) (⟨0,by simp⟩) 2 τ ?_ (by first|rfl|(simp only [go_sem];done)|(simp only [go_sem];simp [tC];done)) ξ φ φ (by first|rfl|(simp only [go_sem];done)|(simp only [tC];(try simp only [go_sem]);first|done|rfl)) ?_
 ·(simp only [go_sem];(try simp [tC]);done)
 intro J hJ
 rintro⟨k,hk0⟩
 by_cases hlt:k<s.regions.length
 ·have hk:=hr _ (dJ hlt)
  obtain⟨e1,e2,e3⟩:=hk;have fc:=yfg s.regions[k]! 32;rw [e3] at fc;have hbl:(tC (s.regions.take k)).length≤129*k:=by
   have:=xs2 (l:=s.regions.take k) fun y hy=>(hr y (List.mem_of_mem_take hy)).2.1;rw [List.length_take,Nat.min_eq_left hk0] at this;exact this
  have hn:=yt1 s.regions k hlt;refine aA ?_;refine aF (fc) ?_;have f:=ycc ([(s.regions.length:Int)]++tC (s.regions.take k)) s.regions[k]! (by simp only [List.length_append,List.length_cons,List.length_nil];omega);refine Rdn.Dp.zca (f) ?_;exact vW (hJ _ (⟨k+1,hlt⟩) ψ) hn
 obtain rfl:k=s.regions.length:=ω;dsimp only;rw [List.take_length];have hrl:=xs2 fun y hy=>(hr y hy).2.1;generalize hR:tC s.regions=R at hrl;refine aA ?_;refine gY [50,51] (fun p:{p:Nat // p≤s.threads.length}=>[(4,.own 1 (s.regions.length+6*p.1)),(52,.int .i64 p.1)]) (fun p=>[⟨.box false 50,true,0,qG s⟩,⟨.row 5,true,s.regions.length+6*p.1,.arr 1 (nO ([(s.regions.length:Int)]++R++wS (s.threads.take p.1)))⟩]) (fun p=>s.threads.length-p.1) (⟨0,by simp⟩) 2 τ ?_ (by first|rfl|(simp only [go_sem];done)|(simp only [go_sem];simp [wS];done)) ξ φ φ (by first|rfl|(simp only [go_sem];done)|(simp only [wS];(try simp only [go_sem]);first|done|rfl)) ?_
 ·(simp only [go_sem];(try simp [wS]);done)
 intro J hJ
 rintro⟨i,hi0⟩
 by_cases hlt:i<s.threads.length
 ·have hv:=ht _ (dJ hlt)
  have hvl:(wS (s.threads.take i)).length=48*i:=by
   have:=yfb (l:=s.threads.take i) fun y hy=>(ht y (List.mem_of_mem_take hy)).len;rw [List.length_take,Nat.min_eq_left hi0] at this;exact this
  have hn:=yxh s.threads i hlt;have hcd:=xbu (hcode _ (dJ hlt));obtain⟨B,hB⟩:∃B,[(s.regions.length:Int)]++R++wS (s.threads.take i)=B:=⟨_,rfl⟩;have hBl:B.length≤1000:=by rw [←hB];simp only [List.length_append,List.length_cons,List.length_nil];omega
  have e:B++[s.threads[i]!.state]++[s.threads[i]!.pc]++[s.threads[i]!.trap]++jA 6 s.threads[i]!.count++jA 2 (s.threads[i]!.handler+1)++jA 2 (s.threads[i]!.saved+1)++jA 2 s.threads[i]!.code++zS s.threads[i]!.regs=[(s.regions.length:Int)]++R++wS (s.threads.take (i+1)):=by
   rw [hn,←hB];simp only [vwB,List.append_assoc,List.cons_append,List.nil_append]
  obtain⟨⟨q0,q1⟩,⟨q2,q3⟩,⟨q4,q5⟩,⟨q6,q7⟩,⟨q8,q9⟩,⟨qa,qb⟩,q8l,-⟩:=hv;have f1:=xhb (B++[s.threads[i]!.state]++[s.threads[i]!.pc]++[s.threads[i]!.trap]) 6 s.threads[i]!.count δ (by simp only [List.length_append,List.length_cons,List.length_nil];omega);have f2:=xhb (B++[s.threads[i]!.state]++[s.threads[i]!.pc]++[s.threads[i]!.trap]++jA 6 s.threads[i]!.count) 2 (s.threads[i]!.handler+1) δ (by simp only [List.length_append,List.length_cons,List.length_nil,xba];omega);have f3:=xhb (B++[s.threads[i]!.state]++[s.threads[i]!.pc]++[s.threads[i]!.trap]++jA 6 s.threads[i]!.count++jA 2 (s.threads[i]!.handler+1)) 2 (s.threads[i]!.saved+1) δ (by simp only [List.length_append,List.length_cons,List.length_nil,xba];omega);have f4:=xhb (B++[s.threads[i]!.state]++[s.threads[i]!.pc]++[s.threads[i]!.trap]++jA 6 s.threads[i]!.count++jA 2 (s.threads[i]!.handler+1)++jA 2 (s.threads[i]!.saved+1)) 2 s.threads[i]!.code δ (by simp only [List.length_append,List.length_cons,List.length_nil,xba];omega);have f5:=ycc (B++[s.threads[i]!.state]++[s.threads[i]!.pc]++[s.threads[i]!.trap]++jA 6 s.threads[i]!.count++jA 2 (s.threads[i]!.handler+1)++jA 2 (s.threads[i]!.saved+1)++jA 2 s.threads[i]!.code) s.threads[i]!.regs (by simp only [List.length_append,List.length_cons,List.length_nil,xba];omega);rw [e] at f5;dsimp only;rw [hB];refine aA ?_;refine Rdn.Dp.zca (f1) ?_;refine Rdn.Dp.zca (f2) ?_;refine Rdn.Dp.zca (f3) ?_;refine Rdn.Dp.zca (f4) ?_;refine Rdn.Dp.zca (f5) ?_;have hg:s.regions.length+6*i+1+1+1+1+1+1=s.regions.length+6*(i+1):=ω;exact vW (hJ _ (⟨i+1,hlt⟩) ψ) hg
 obtain rfl:i=s.threads.length:=ω;dsimp only;rw [List.take_length];have hz:[(s.regions.length:Int)]++R++wS s.threads=stB s:=by rw [←hR,stB];simp only [List.cons_append,List.nil_append]
 rw [hz];refine aA ?_;exact aU ya3
end Go.Proofs.YthmjocibdepahaaGreat
