import Derived.Test.YthmjocibdepahaaGreatA43
set_option linter.defProp false
set_option linter.unusedSimpArgs false
set_option linter.unusedVariables false
set_option maxHeartbeats 64000000
set_option maxRecDepth 100000
namespace Go.Proofs.YthmjocibdepahaaGreat
open Go Go.RowKit Rdn Rdn.Dp
def yaa:=aC 69
def xy3:=aC 68
def xgs:=aC 23
theorem ywq (s:List Int) (h:oO s):Fnc Tryz.prog 69 [.sl false 1 (bH s)] (fun x obs=>x=.int .i64 (iY s)∧obs=[]):=by
 have h3:=h.2.2;refine aI yaa fun W S=>?_;refine gY [6,7] (fun p:{p:Nat // p≤s.length}=>[(3,.int .i64 (iY (s.take p.1))),(8,.int .i64 p.1)]) (fun _=>[]) (fun p=>s.length-p.1) (⟨0,by simp⟩) 0 τ ?_ (by first|rfl|(simp only [go_sem];done)|(simp only [go_sem];simp [iY];done)) ξ φ φ (by first|rfl|(simp only [go_sem];done)|(simp only [iY];(try simp only [go_sem]);first|done|rfl)) ?_
 ·(simp only [go_sem];(try simp [iY]);done)
 intro J hJ
 rintro⟨k,hk0⟩
 have hb:=xt4 h k hk0;by_cases hlt:k<s.length
 ·have h4:=xU h hlt
  have ht:=xt5 hlt;refine aA ?_;exact nP (hJ _ (⟨k+1,hlt⟩) ψ) ht
 obtain rfl:k=s.length:=ω;rw [List.take_length];refine aA ?_;exact aU yaa
theorem yg7 (s:List Int) (h:oO s) (i:Int) (h0:0≤i) (h1:i≤65535) (q:Int×Int) (hq:vZ s 0 i=some q):Fnc Tryz.prog 68 [.sl false 1 (bH s),.int .i64 i] (fun x obs=>x=.tup [lU q,.int .i64 0]∧obs=[]):=by
 have h3:=h.2.2;refine aI xy3 fun W S=>?_;refine bI [4,8,9] (fun p:{p:Nat×Int // p.1≤s.length∧0≤p.2∧p.2≤65535∧vZ s 0 i=vZ (s.drop p.1) p.1 p.2}=>[(1,.int .i64 p.1.2),(10,.int .i64 p.1.1)]) (fun _=>[⟨.box false 120,true,0,lU (0,0)⟩]) (fun p=>s.length-p.1.1) (⟨(0,i),by simp,h0,h1,rfl⟩) 1 ?_;intro J hJ
 rintro⟨⟨k,j⟩,hk0,hj0,hj1,hk1⟩
 dsimp only at hk0 hj0 hj1 hk1;by_cases hlt:k<s.length
 ·have h4:=xU h hlt
  rw [xo2 hlt,hq] at hk1;by_cases c:j<s[k]!
  ·rw [if_pos ⟨hj0,c⟩] at hk1
   obtain rfl:=Option.some.inj hk1;refine aA ?_;exact aU xy3
  ·rw [if_neg (fun e=>c e.2)] at hk1
   refine aA ?_;exact jH (hJ _ (⟨(k+1,j-s[k]!),hlt,by show(0:Int)≤j-s[k]!;omega,by show j-s[k]!≤(65535:Int);omega,hq.trans hk1⟩) ψ) hlt
 obtain rfl:k=s.length:=ω;rw [List.drop_length,hq] at hk1;cases hk1
def yba (s:List Int) (c:Canon):Prop:=mJ s c∧0≤c.val∧c.val≤65535
theorem xnl {s:List Int} (h:oO s):0<iY s∧iY s≤128:=by
 have tl:=xt4 h s.length (Nat.le_refl _);rw [List.take_length] at tl;obtain⟨a,b,e⟩:=h;refine⟨?_,ω⟩;cases s with
 |nil=>simp at b
 |cons n s=>
  have h0:=a n ξ;have h2:∀l:List Int,(∀n∈l,1≤n∧n≤32)→0≤iY l:=fun l=>by
   induction l with
   |nil=>intro _;simp [iY]
   |cons m l ih=>intro hm;have:=hm m ξ;have:=ih fun n hn=>hm n (by simp [hn]);simp only [iY];omega
  have:=h2 s fun n hn=>a n (by simp [hn]);simp only [iY];omega
def yE (s l:List Int) (k:Nat):Canon×Nat:=
 if aG l k 6=4 then(⟨1,0,((vZ s 0 (aG l (aB l k) (iY s))).getD (0,0)).1,((vZ s 0 (aG l (aB l k) (iY s))).getD (0,0)).2⟩,aB l (aB l k))
 else if aG l k 6=5 then(⟨2,aG l (aB l k) 10,0,0⟩,aB l (aB l k))
 else(⟨0,wF l (aB l k),0,0⟩,aB l (aB l (aB l k)))
theorem xv7 {s l:List Int} (h:oO s) (k:Nat):∃q,vZ s 0 (aG l k (iY s))=some q∧nG s q.1 q.2:=
 xtw h (iT (xnl h).1) (iZ (xnl h).1)
theorem xv5 {s l:List Int} (h:oO s) {k:Nat} (hk:k≤l.length):yba s (yE s l k).1∧(yE s l k).2≤l.length:=by
 have k1:=aH hk;unfold yE;split
 ·obtain⟨q,hq,hi⟩:=xv7 (l:=l) h (aB l k)
  rw [hq];exact⟨⟨by unfold mJ;rw [if_neg ξ];exact⟨rfl,rfl,hi⟩,by show(0:Int)≤0∧(0:Int)≤65535;decide⟩,aH k1⟩
 split
 ·have g0:=iT (l:=l) (k:=aB l k) (n:=10) δ
  have g1:=iZ (l:=l) (k:=aB l k) (n:=10) δ;exact⟨⟨by unfold mJ;rw [if_pos ξ];exact⟨rfl,rfl⟩,g0,by show aG l (aB l k) 10≤65535;omega⟩,aH k1⟩
 ·exact⟨⟨by unfold mJ;rw [if_pos ξ];exact⟨rfl,rfl⟩,(xet l _).1,(xet l _).2⟩,aH (aH k1)⟩
theorem xv6 (l:List Int) (k:Nat) (hk:k≤l.length) (s:List Int) (h:oO s):FncM Tryz.prog 23 87 (gV l k) [.sl false 1 (bH s)] (fun x obs d=>x=aS (yE s l k).1∧obs=[]∧d=gV l (yE s l k).2):=by
 have k1:=aH hk;have f0:=fB l k 6 hk δ;by_cases c4:aG l k 6=4
 ·have tp:=xnl h
  have g0:=iT (l:=l) (k:=aB l k) tp.1;have g1:=iZ (l:=l) (k:=aB l k) tp.1;obtain⟨⟨r,o⟩,hq,hi⟩:=xv7 (l:=l) h (aB l k);have f1:=fB l (aB l k) (iY s) k1 tp.1;have ft:=ywq s h;have fa:=yg7 s h _ g0 ω _ hq;have hd:yE s l k=(⟨1,0,r,o⟩,aB l (aB l k)):=by unfold yE;rw [if_pos c4,hq];rfl
  refine qX xgs fun W S b0 hb0=>?_;refine aO (f0) ?_;refine aF (ft) ?_;refine aO (f1) ?_;refine aF (fa) ?_;exact zrn hb0 xgs hd
 by_cases c5:aG l k 6=5
 ·have hd:yE s l k=(⟨2,aG l (aB l k) 10,0,0⟩,aB l (aB l k)):=by unfold yE;rw [if_neg c4,if_pos c5]
  have f1:=fB l (aB l k) 10 k1 δ;have g0:=iT (l:=l) (k:=aB l k) (n:=10) δ;have g1:=iZ (l:=l) (k:=aB l k) (n:=10) δ;refine qX xgs fun W S b0 hb0=>?_;refine aO (f0) ?_;refine aO (f1) ?_;exact zrn hb0 xgs hd
 ·have hd:yE s l k=(⟨0,wF l (aB l k),0,0⟩,aB l (aB l (aB l k))):=by unfold yE;rw [if_neg c4,if_neg c5]
  have f1:=xnt l (aB l k) k1;refine qX xgs fun W S b0 hb0=>?_;refine aO (f0) ?_;refine aO (f1) ?_;exact zrn hb0 xgs hd
end Go.Proofs.YthmjocibdepahaaGreat
