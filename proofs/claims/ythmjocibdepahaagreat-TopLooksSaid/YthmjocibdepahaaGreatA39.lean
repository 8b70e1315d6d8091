import Derived.Test.YthmjocibdepahaaGreatA38
set_option linter.defProp false
set_option linter.unusedSimpArgs false
set_option linter.unusedVariables false
set_option maxHeartbeats 64000000
set_option maxRecDepth 100000
namespace Go.Proofs.YthmjocibdepahaaGreat
open Go Go.RowKit Rdn Rdn.Dp
def jF:=zcs 121
def yre (S:Int) (l:List PInstr):Prop:=(∀i∈l,vS S i)∧l.length≤5
theorem xc6 {S a r:Int} (ha:0≤a∧a<8) (h0:0≤r) (h1:r<S) (hS:S≤4):vS S ⟨15,a,0,0,r⟩:=sZ (u0:=true) (u1:=false) (u2:=false) (u3:=true) rfl δ ha δ δ ⟨h0,ω⟩ (fun h=>by cases h) (fun _=>rfl) (fun _=>rfl) (fun h=>by cases h) (fun _=>h1) (fun h=>by cases h)
theorem nZ {S a v:Int} (ha:0≤a∧a<8) (hv:0≤v∧v≤65535):vS S ⟨1,a,0,0,v⟩:=sZ (u0:=true) (u1:=false) (u2:=false) (u3:=true) rfl δ ha δ δ hv (fun h=>by cases h) (fun _=>rfl) (fun _=>rfl) (fun h=>by cases h) (fun h=>by cases h) (fun h=>by cases h)
theorem xc7 {S a b:Int} (ha:0≤a∧a<8) (hb:0≤b∧b<8):vS S ⟨2,a,b,0,0⟩:=sZ (u0:=true) (u1:=true) (u2:=false) (u3:=false) rfl δ ha hb δ δ (fun h=>by cases h) (fun h=>by cases h) (fun _=>rfl) (fun _=>rfl) (fun h=>by cases h) (fun h=>by cases h)
theorem qE {S n:Int} (hn:0≤n∧n≤15):vS S ⟨23,0,0,0,n⟩:=sZ (u0:=false) (u1:=false) (u2:=false) (u3:=true) rfl δ δ δ δ ⟨hn.1,ω⟩ (fun _=>rfl) (fun _=>rfl) (fun _=>rfl) (fun h=>by cases h) (fun h=>by cases h) (fun _=>hn.2)
theorem xmr {S op a b m:Int} (ho:op=16∨op=17) (ha:0≤a∧a<8) (hb:0≤b∧b<8) (hm:0≤m∧m≤65535):vS S ⟨op,a,b,0,m⟩:=sZ (u0:=true) (u1:=true) (u2:=false) (u3:=true) (by rcases ho with rfl|rfl<;>rfl) ω ha hb δ hm (fun h=>by cases h) (fun h=>by cases h) (fun _=>rfl) (fun h=>by cases h) (fun h=>by omega) (fun h=>by omega)
theorem xd1 {S op a b c:Int} (ho:3≤op∧op≤14) (ha:0≤a∧a<8) (hb:0≤b∧b<8) (hc:0≤c∧c<8):vS S ⟨op,a,b,c,0⟩:=sZ (u0:=true) (u1:=true) (u2:=true) (u3:=false) (by unfold kC;repeat(first|rw [if_pos ω]|rw [if_neg ω])) ω ha hb hc δ (fun h=>by cases h) (fun h=>by cases h) (fun h=>by cases h) (fun _=>rfl) (fun h=>by omega) (fun h=>by omega)
theorem yrg {S a m:Int} (ha:0≤a∧a<8) (hm:0≤m∧m≤65535):vS S ⟨20,a,0,0,m⟩:=sZ (u0:=true) (u1:=false) (u2:=false) (u3:=true) rfl δ ha δ δ hm (fun h=>by cases h) (fun _=>rfl) (fun _=>rfl) (fun h=>by cases h) (fun h=>by cases h) (fun h=>by cases h)
theorem all_nil {P:PInstr→Prop}:∀i∈([]:List PInstr),P i:=fun i hi=>by cases hi
theorem all_cons {P:PInstr→Prop} {a:PInstr} {l:List PInstr} (h:P a) (k:∀i∈l,P i):∀i∈a::l,P i:=fun i hi=>by
 rcases List.mem_cons.1 hi with rfl|hi
 ·exact h
 ·exact k i hi
theorem yrk (l:List Int) (k:Nat) (hk:k≤l.length) (s:List Int) (hs:oO s) (most at0:Int) (hm:1≤most∧most≤65) (ha:0≤at0∧at0≤64):FncM Tryz.prog 121 87 (gV l k) [.sl false 1 (bH s),.int .i64 most,.int .i64 at0] (fun x obs c=>∃(out:List PInstr) (k':Nat),yre s.length out∧k'≤l.length∧x=.sl false 5 (out.map nT)∧obs=[]∧c=gV l k'):=by
 refine FncM.low ?_;obtain⟨s1,s2,s3⟩:=id hs;have dd:∀(q:Nat) (m:Int),0<m→0≤aG l q m∧aG l q m<m:=fun q m h=>⟨iT h,iZ h⟩;have f1:=fB l k s.length hk ω;have r1:=dd k s.length ω;have k1:=aH hk;have k2:=aH k1;have k3:=aH k2;generalize hr:aG l k s.length=r at f1 r1;clear hr;have sz:=s1 _ (dJ (l:=s) (k:=r.toNat) ω);have mp:0<(if s[r.toNat]!+1<5 then s[r.toNat]!+1 else 5)∧(if s[r.toNat]!+1<5 then s[r.toNat]!+1 else 5)≤5:=by split<;>omega
 have f2:=fB l (aB l k) (if s[r.toNat]!+1<5 then s[r.toNat]!+1 else 5) k1 mp.1;have n1:=dd (aB l k) (if s[r.toNat]!+1<5 then s[r.toNat]!+1 else 5) mp.1;generalize hn:aG l (aB l k) (if s[r.toNat]!+1<5 then s[r.toNat]!+1 else 5)=n0 at f2 n1;clear hn;have n2:n0<5:=ω;have f3:=fB l (aB l (aB l k)) 20 k2 δ;have z1:=dd (aB l (aB l k)) 20 δ;generalize hz:aG l (aB l (aB l k)) 20=z at f3 z1;clear hz;generalize hp:aB l (aB l (aB l k))=p at f3 k3;clear hp;have z8:(0:Int)≤0∧(0:Int)<8:=δ;have z8':∀v:Int,0≤v→v<8→0≤v∧v<8:=fun v a b=>⟨a,b⟩;have nx:=fun q (m:Int) (hm:0<m) hq=>fB l q m hq hm;have nw:=fun q hq=>xnt l q hq;refine qX jF fun W S b0 hb0=>?_;refine aO (f1) ?_;refine aO (f2) ?_;refine aF (pY 2 n0) ?_;refine aO (f3) ?_;by_cases e0:z=0
 ·skip
  refine aA ?_;have d0:=dd p 3 δ;refine aO (nx p 3 δ k3) ?_;have d1:=xet l (aB l p);refine aO (nw (aB l p) (aH k3)) ?_;refine aF (pY (3+(aG l p 3)) (wF l (aB l p))) ?_;refine dE hb0 jF ?_
  (exact⟨[⟨1,3+(aG l p 3),0,0,(wF l (aB l p))⟩],(aB l (aB l (aB l p))),⟨(all_cons (nZ ⟨ω,ω⟩ ⟨ω,ω⟩) all_nil),by simp⟩,(aH (aH (aH k3))),by(first|rfl|simp only [go_sem]|(simp only [go_sem];rfl)),rfl,by simp only [go_sem]⟩)
 by_cases e1:z=1
 ·skip
  have x0:=nx p 8 δ k3;have c0:=dd p 8 δ;have o0:aG l p 8=0∨aG l p 8=1∨aG l p 8=2∨aG l p 8=3∨aG l p 8=4∨aG l p 8=5∨aG l p 8=6∨aG l p 8=7:=ω;generalize aG l p 8=b0 at x0 o0;clear c0;rcases o0 with rfl|rfl|rfl|rfl|rfl|rfl|rfl|rfl
  ·skip
   refine aA ?_;refine aO (x0) ?_;have d1:=dd (aB l p) 3 δ;refine aO (nx (aB l p) 3 δ (aH k3)) ?_;have d2:=dd (aB l (aB l p)) 3 δ;refine aO (nx (aB l (aB l p)) 3 δ (aH (aH k3))) ?_;have d3:=dd (aB l (aB l (aB l p))) 3 δ;refine aO (nx (aB l (aB l (aB l p))) 3 δ (aH (aH (aH k3)))) ?_;refine dE hb0 jF ?_
   (exact⟨[⟨3,3+(aG l (aB l p) 3),3+(aG l (aB l (aB l p)) 3),3+(aG l (aB l (aB l (aB l p))) 3),0⟩],(aB l (aB l (aB l (aB l p)))),⟨(all_cons (xd1 δ ⟨ω,ω⟩ ⟨ω,ω⟩ ⟨ω,ω⟩) all_nil),by simp⟩,(aH (aH (aH (aH k3)))),by(first|rfl|simp only [go_sem]|(simp only [go_sem];rfl)),rfl,by simp only [go_sem]⟩)
  ·skip
   refine aA ?_;refine aO (x0) ?_;have d1:=dd (aB l p) 3 δ;refine aO (nx (aB l p) 3 δ (aH k3)) ?_;have d2:=dd (aB l (aB l p)) 3 δ;refine aO (nx (aB l (aB l p)) 3 δ (aH (aH k3))) ?_;have d3:=dd (aB l (aB l (aB l p))) 3 δ;refine aO (nx (aB l (aB l (aB l p))) 3 δ (aH (aH (aH k3)))) ?_;refine dE hb0 jF ?_
   (exact⟨[⟨4,3+(aG l (aB l p) 3),3+(aG l (aB l (aB l p)) 3),3+(aG l (aB l (aB l (aB l p))) 3),0⟩],(aB l (aB l (aB l (aB l p)))),⟨(all_cons (xd1 δ ⟨ω,ω⟩ ⟨ω,ω⟩ ⟨ω,ω⟩) all_nil),by simp⟩,(aH (aH (aH (aH k3)))),by(first|rfl|simp only [go_sem]|(simp only [go_sem];rfl)),rfl,by simp only [go_sem]⟩)
  ·skip
   refine aA ?_;refine aO (x0) ?_;have d1:=dd (aB l p) 3 δ;refine aO (nx (aB l p) 3 δ (aH k3)) ?_;have d2:=dd (aB l (aB l p)) 3 δ;refine aO (nx (aB l (aB l p)) 3 δ (aH (aH k3))) ?_;have d3:=dd (aB l (aB l (aB l p))) 3 δ;refine aO (nx (aB l (aB l (aB l p))) 3 δ (aH (aH (aH k3)))) ?_;refine dE hb0 jF ?_
   (exact⟨[⟨5,3+(aG l (aB l p) 3),3+(aG l (aB l (aB l p)) 3),3+(aG l (aB l (aB l (aB l p))) 3),0⟩],(aB l (aB l (aB l (aB l p)))),⟨(all_cons (xd1 δ ⟨ω,ω⟩ ⟨ω,ω⟩ ⟨ω,ω⟩) all_nil),by simp⟩,(aH (aH (aH (aH k3)))),by(first|rfl|simp only [go_sem]|(simp only [go_sem];rfl)),rfl,by simp only [go_sem]⟩)
  ·skip
   refine aA ?_;refine aO (x0) ?_;have d1:=dd (aB l p) 3 δ;refine aO (nx (aB l p) 3 δ (aH k3)) ?_;have d2:=dd (aB l (aB l p)) 3 δ;refine aO (nx (aB l (aB l p)) 3 δ (aH (aH k3))) ?_;have d3:=dd (aB l (aB l (aB l p))) 3 δ;refine aO (nx (aB l (aB l (aB l p))) 3 δ (aH (aH (aH k3)))) ?_;refine dE hb0 jF ?_
   (exact⟨[⟨10,3+(aG l (aB l p) 3),3+(aG l (aB l (aB l p)) 3),3+(aG l (aB l (aB l (aB l p))) 3),0⟩],(aB l (aB l (aB l (aB l p)))),⟨(all_cons (xd1 δ ⟨ω,ω⟩ ⟨ω,ω⟩ ⟨ω,ω⟩) all_nil),by simp⟩,(aH (aH (aH (aH k3)))),by(first|rfl|simp only [go_sem]|(simp only [go_sem];rfl)),rfl,by simp only [go_sem]⟩)
  ·skip
   refine aA ?_;refine aO (x0) ?_;have d1:=dd (aB l p) 3 δ;refine aO (nx (aB l p) 3 δ (aH k3)) ?_;have d2:=dd (aB l (aB l p)) 3 δ;refine aO (nx (aB l (aB l p)) 3 δ (aH (aH k3))) ?_;have d3:=dd (aB l (aB l (aB l p))) 3 δ;refine aO (nx (aB l (aB l (aB l p))) 3 δ (aH (aH (aH k3)))) ?_;refine dE hb0 jF ?_
   (exact⟨[⟨13,3+(aG l (aB l p) 3),3+(aG l (aB l (aB l p)) 3),3+(aG l (aB l (aB l (aB l p))) 3),0⟩],(aB l (aB l (aB l (aB l p)))),⟨(all_cons (xd1 δ ⟨ω,ω⟩ ⟨ω,ω⟩ ⟨ω,ω⟩) all_nil),by simp⟩,(aH (aH (aH (aH k3)))),by(first|rfl|simp only [go_sem]|(simp only [go_sem];rfl)),rfl,by simp only [go_sem]⟩)
  ·skip
   refine aA ?_;refine aO (x0) ?_;have d1:=dd (aB l p) 3 δ;refine aO (nx (aB l p) 3 δ (aH k3)) ?_;have d2:=dd (aB l (aB l p)) 3 δ;refine aO (nx (aB l (aB l p)) 3 δ (aH (aH k3))) ?_;have d3:=dd (aB l (aB l (aB l p))) 3 δ;refine aO (nx (aB l (aB l (aB l p))) 3 δ (aH (aH (aH k3)))) ?_;refine dE hb0 jF ?_
   (exact⟨[⟨14,3+(aG l (aB l p) 3),3+(aG l (aB l (aB l p)) 3),3+(aG l (aB l (aB l (aB l p))) 3),0⟩],(aB l (aB l (aB l (aB l p)))),⟨(all_cons (xd1 δ ⟨ω,ω⟩ ⟨ω,ω⟩ ⟨ω,ω⟩) all_nil),by simp⟩,(aH (aH (aH (aH k3)))),by(first|rfl|simp only [go_sem]|(simp only [go_sem];rfl)),rfl,by simp only [go_sem]⟩)
  ·skip
   refine aA ?_;refine aO (x0) ?_;have d1:=dd (aB l p) 3 δ;refine aO (nx (aB l p) 3 δ (aH k3)) ?_;have d2:=dd (aB l (aB l p)) 3 δ;refine aO (nx (aB l (aB l p)) 3 δ (aH (aH k3))) ?_;have d3:=dd (aB l (aB l (aB l p))) 3 δ;refine aO (nx (aB l (aB l (aB l p))) 3 δ (aH (aH (aH k3)))) ?_;refine dE hb0 jF ?_
   (exact⟨[⟨11,3+(aG l (aB l p) 3),3+(aG l (aB l (aB l p)) 3),3+(aG l (aB l (aB l (aB l p))) 3),0⟩],(aB l (aB l (aB l (aB l p)))),⟨(all_cons (xd1 δ ⟨ω,ω⟩ ⟨ω,ω⟩ ⟨ω,ω⟩) all_nil),by simp⟩,(aH (aH (aH (aH k3)))),by(first|rfl|simp only [go_sem]|(simp only [go_sem];rfl)),rfl,by simp only [go_sem]⟩)
  ·skip
   refine aA ?_;refine aO (x0) ?_;have d1:=dd (aB l p) 3 δ;refine aO (nx (aB l p) 3 δ (aH k3)) ?_;have d2:=dd (aB l (aB l p)) 3 δ;refine aO (nx (aB l (aB l p)) 3 δ (aH (aH k3))) ?_;have d3:=dd (aB l (aB l (aB l p))) 3 δ;refine aO (nx (aB l (aB l (aB l p))) 3 δ (aH (aH (aH k3)))) ?_;refine dE hb0 jF ?_
   (exact⟨[⟨9,3+(aG l (aB l p) 3),3+(aG l (aB l (aB l p)) 3),3+(aG l (aB l (aB l (aB l p))) 3),0⟩],(aB l (aB l (aB l (aB l p)))),⟨(all_cons (xd1 δ ⟨ω,ω⟩ ⟨ω,ω⟩ ⟨ω,ω⟩) all_nil),by simp⟩,(aH (aH (aH (aH k3)))),by(first|rfl|simp only [go_sem]|(simp only [go_sem];rfl)),rfl,by simp only [go_sem]⟩)
 by_cases e2:z=2
 ·skip
  refine aA ?_;refine dE hb0 jF ?_
  (exact⟨[⟨15,6,0,0,r⟩],p,⟨(all_cons (xc6 ⟨ω,ω⟩ r1.1 r1.2 ω) all_nil),by simp⟩,k3,by(first|rfl|simp only [go_sem]|(simp only [go_sem];rfl)),rfl,by simp only [go_sem]⟩)
 by_cases e3:z=3
 ·skip
  refine aA ?_;have d0:=dd p 5 δ;refine aO (nx p 5 δ k3) ?_;have d1:=dd (aB l p) s[r.toNat]! ω;refine aO (nx (aB l p) s[r.toNat]! ω (aH k3)) ?_;refine dE hb0 jF ?_
  (exact⟨[⟨15,6,0,0,r⟩,⟨17,6,3+(aG l p 5),0,(aG l (aB l p) s[r.toNat]!)⟩],(aB l (aB l p)),⟨(all_cons (xc6 ⟨ω,ω⟩ r1.1 r1.2 ω) (all_cons (xmr (.inr rfl) ⟨ω,ω⟩ ⟨ω,ω⟩ ⟨ω,ω⟩) all_nil)),by simp⟩,(aH (aH k3)),by(first|rfl|simp only [go_sem]|(simp only [go_sem];rfl)),rfl,by simp only [go_sem]⟩)
 by_cases e4:z=4
 ·skip
  refine aA ?_;have d0:=dd p 5 δ;refine aO (nx p 5 δ k3) ?_;have d1:=dd (aB l p) s[r.toNat]! ω;refine aO (nx (aB l p) s[r.toNat]! ω (aH k3)) ?_;refine dE hb0 jF ?_
  (exact⟨[⟨15,6,0,0,r⟩,⟨17,6,3+(aG l p 5),0,(aG l (aB l p) s[r.toNat]!)⟩],(aB l (aB l p)),⟨(all_cons (xc6 ⟨ω,ω⟩ r1.1 r1.2 ω) (all_cons (xmr (.inr rfl) ⟨ω,ω⟩ ⟨ω,ω⟩ ⟨ω,ω⟩) all_nil)),by simp⟩,(aH (aH k3)),by(first|rfl|simp only [go_sem]|(simp only [go_sem];rfl)),rfl,by simp only [go_sem]⟩)
 by_cases e5:z=5
 ·skip
  refine aA ?_;have d0:=dd p 4 δ;refine aO (nx p 4 δ k3) ?_;have d1:=dd (aB l p) s[r.toNat]! ω;refine aO (nx (aB l p) s[r.toNat]! ω (aH k3)) ?_;refine dE hb0 jF ?_
  (exact⟨[⟨15,6,0,0,r⟩,⟨16,3+(aG l p 4),6,0,(aG l (aB l p) s[r.toNat]!)⟩],(aB l (aB l p)),⟨(all_cons (xc6 ⟨ω,ω⟩ r1.1 r1.2 ω) (all_cons (xmr (.inl rfl) ⟨ω,ω⟩ ⟨ω,ω⟩ ⟨ω,ω⟩) all_nil)),by simp⟩,(aH (aH k3)),by(first|rfl|simp only [go_sem]|(simp only [go_sem];rfl)),rfl,by simp only [go_sem]⟩)
 by_cases e6:z=6
 ·skip
  refine aA ?_;have d0:=dd p 4 δ;refine aO (nx p 4 δ k3) ?_;have d1:=dd (aB l p) s[r.toNat]! ω;refine aO (nx (aB l p) s[r.toNat]! ω (aH k3)) ?_;refine dE hb0 jF ?_
  (exact⟨[⟨15,6,0,0,r⟩,⟨16,3+(aG l p 4),6,0,(aG l (aB l p) s[r.toNat]!)⟩],(aB l (aB l p)),⟨(all_cons (xc6 ⟨ω,ω⟩ r1.1 r1.2 ω) (all_cons (xmr (.inl rfl) ⟨ω,ω⟩ ⟨ω,ω⟩ ⟨ω,ω⟩) all_nil)),by simp⟩,(aH (aH k3)),by(first|rfl|simp only [go_sem]|(simp only [go_sem];rfl)),rfl,by simp only [go_sem]⟩)
 by_cases e7:z=7
 ·skip
  refine aA ?_;have d0:=dd p 3 δ;refine aO (nx p 3 δ k3) ?_;refine jC (pY 0 (aG l p 3)) (oV 13) ?_;refine dE hb0 jF ?_
  (exact⟨[⟨1,0,0,0,(aG l p 3)⟩,⟨15,1,0,0,r⟩,⟨1,2,0,0,n0⟩,⟨23,0,0,0,13⟩],(aB l p),⟨(all_cons (nZ ⟨ω,ω⟩ ⟨ω,ω⟩) (all_cons (xc6 ⟨ω,ω⟩ r1.1 r1.2 ω) (all_cons (nZ ⟨ω,ω⟩ ⟨ω,ω⟩) (all_cons (qE ⟨ω,ω⟩) all_nil)))),by simp⟩,(aH k3),by(first|rfl|simp only [go_sem]|(simp only [go_sem];rfl)),rfl,by simp only [go_sem]⟩)
 by_cases e8:z=8
 ·skip
  refine aA ?_;have d0:=dd p 3 δ;refine aO (nx p 3 δ k3) ?_;refine jC (pY 0 (aG l p 3)) (oV 13) ?_;refine dE hb0 jF ?_
  (exact⟨[⟨1,0,0,0,(aG l p 3)⟩,⟨15,1,0,0,r⟩,⟨1,2,0,0,n0⟩,⟨23,0,0,0,13⟩],(aB l p),⟨(all_cons (nZ ⟨ω,ω⟩ ⟨ω,ω⟩) (all_cons (xc6 ⟨ω,ω⟩ r1.1 r1.2 ω) (all_cons (nZ ⟨ω,ω⟩ ⟨ω,ω⟩) (all_cons (qE ⟨ω,ω⟩) all_nil)))),by simp⟩,(aH k3),by(first|rfl|simp only [go_sem]|(simp only [go_sem];rfl)),rfl,by simp only [go_sem]⟩)
 by_cases e9:z=9
 ·skip
  refine aA ?_;have d0:=dd p 3 δ;refine aO (nx p 3 δ k3) ?_;refine wU (pY 0 (aG l p 3)) (oV 14) (xa5 3 0) ?_;refine dE hb0 jF ?_
  (exact⟨[⟨1,0,0,0,(aG l p 3)⟩,⟨15,1,0,0,r⟩,⟨1,2,0,0,n0⟩,⟨23,0,0,0,14⟩,⟨2,3,0,0,0⟩],(aB l p),⟨(all_cons (nZ ⟨ω,ω⟩ ⟨ω,ω⟩) (all_cons (xc6 ⟨ω,ω⟩ r1.1 r1.2 ω) (all_cons (nZ ⟨ω,ω⟩ ⟨ω,ω⟩) (all_cons (qE ⟨ω,ω⟩) (all_cons (xc7 ⟨ω,ω⟩ ⟨ω,ω⟩) all_nil))))),by simp⟩,(aH k3),by(first|rfl|simp only [go_sem]|(simp only [go_sem];rfl)),rfl,by simp only [go_sem]⟩)
 by_cases e10:z=10
 ·skip
  refine aA ?_;have d0:=dd p 3 δ;refine aO (nx p 3 δ k3) ?_;refine aF (pY 0 (aG l p 3)) ?_;have d1:=dd (aB l p) 4 δ;refine aO (nx (aB l p) 4 δ (aH k3)) ?_;refine wU (pY 1 (aG l (aB l p) 4)) (oV 3) (xa5 7 0) ?_;refine dE hb0 jF ?_
  (exact⟨[⟨1,0,0,0,(aG l p 3)⟩,⟨1,1,0,0,(aG l (aB l p) 4)⟩,⟨23,0,0,0,3⟩,⟨2,7,0,0,0⟩],(aB l (aB l p)),⟨(all_cons (nZ ⟨ω,ω⟩ ⟨ω,ω⟩) (all_cons (nZ ⟨ω,ω⟩ ⟨ω,ω⟩) (all_cons (qE ⟨ω,ω⟩) (all_cons (xc7 ⟨ω,ω⟩ ⟨ω,ω⟩) all_nil)))),by simp⟩,(aH (aH k3)),by(first|rfl|simp only [go_sem]|(simp only [go_sem];rfl)),rfl,by simp only [go_sem]⟩)
 by_cases e11:z=11
 ·skip
  have x0:=nx p 2 δ k3;have c0:=dd p 2 δ;have o0:aG l p 2=0∨aG l p 2=1:=ω;generalize aG l p 2=b0 at x0 o0;clear c0;rcases o0 with rfl|rfl
  ·skip
   refine aA ?_;refine aF (xa5 0 7) ?_;refine aO (x0) ?_;refine aF (oV 1) ?_;refine dE hb0 jF ?_
   (exact⟨[⟨2,0,7,0,0⟩,⟨15,1,0,0,r⟩,⟨1,2,0,0,n0⟩,⟨23,0,0,0,1⟩],(aB l p),⟨(all_cons (xc7 ⟨ω,ω⟩ ⟨ω,ω⟩) (all_cons (xc6 ⟨ω,ω⟩ r1.1 r1.2 ω) (all_cons (nZ ⟨ω,ω⟩ ⟨ω,ω⟩) (all_cons (qE ⟨ω,ω⟩) all_nil)))),by simp⟩,(aH k3),by(first|rfl|simp only [go_sem]|(simp only [go_sem];rfl)),rfl,by simp only [go_sem]⟩)
  ·skip
   refine aA ?_;refine aF (xa5 0 7) ?_;refine aO (x0) ?_;refine aF (oV 2) ?_;refine dE hb0 jF ?_
   (exact⟨[⟨2,0,7,0,0⟩,⟨15,1,0,0,r⟩,⟨1,2,0,0,n0⟩,⟨23,0,0,0,2⟩],(aB l p),⟨(all_cons (xc7 ⟨ω,ω⟩ ⟨ω,ω⟩) (all_cons (xc6 ⟨ω,ω⟩ r1.1 r1.2 ω) (all_cons (nZ ⟨ω,ω⟩ ⟨ω,ω⟩) (all_cons (qE ⟨ω,ω⟩) all_nil)))),by simp⟩,(aH k3),by(first|rfl|simp only [go_sem]|(simp only [go_sem];rfl)),rfl,by simp only [go_sem]⟩)
 by_cases e12:z=12
 ·skip
  have x1:=nx (aB l p) 2 δ (aH k3);have c1:=dd (aB l p) 2 δ;have o1:aG l (aB l p) 2=0∨aG l (aB l p) 2=1:=ω;generalize aG l (aB l p) 2=b1 at x1 o1;clear c1;rcases o1 with rfl|rfl
  ·skip
   refine aA ?_;refine wU (xa5 0 7) (oV 4) (xa5 0 7) ?_;have d0:=dd p 4 δ;refine aO (nx p 4 δ k3) ?_;refine jC (pY 1 (aG l p 4)) (oV 5) ?_;refine aO (x1) ?_;refine dE hb0 jF ?_
   (exact⟨[⟨2,0,7,0,0⟩,⟨23,0,0,0,4⟩],(aB l (aB l p)),⟨(all_cons (xc7 ⟨ω,ω⟩ ⟨ω,ω⟩) (all_cons (qE ⟨ω,ω⟩) all_nil)),by simp⟩,(aH (aH k3)),by(first|rfl|simp only [go_sem]|(simp only [go_sem];rfl)),rfl,by simp only [go_sem]⟩)
  ·skip
   refine aA ?_;refine wU (xa5 0 7) (oV 4) (xa5 0 7) ?_;have d0:=dd p 4 δ;refine aO (nx p 4 δ k3) ?_;refine jC (pY 1 (aG l p 4)) (oV 5) ?_;refine aO (x1) ?_;refine dE hb0 jF ?_
   (exact⟨[⟨2,0,7,0,0⟩,⟨1,1,0,0,(aG l p 4)⟩,⟨23,0,0,0,5⟩],(aB l (aB l p)),⟨(all_cons (xc7 ⟨ω,ω⟩ ⟨ω,ω⟩) (all_cons (nZ ⟨ω,ω⟩ ⟨ω,ω⟩) (all_cons (qE ⟨ω,ω⟩) all_nil))),by simp⟩,(aH (aH k3)),by(first|rfl|simp only [go_sem]|(simp only [go_sem];rfl)),rfl,by simp only [go_sem]⟩)
 by_cases e13:z=13
 ·skip
  have x0:=nx p 3 δ k3;have c0:=dd p 3 δ;have o0:aG l p 3=0∨aG l p 3=1∨aG l p 3=2:=ω;generalize aG l p 3=b0 at x0 o0;clear c0;rcases o0 with rfl|rfl|rfl
  ·skip
   refine aA ?_;refine aO (x0) ?_;refine aF (oV 6) ?_;have d1:=dd (aB l p) 3 δ;refine aO (nx (aB l p) 3 δ (aH k3)) ?_;refine aF (xa5 (3+(aG l (aB l p) 3)) 0) ?_;refine dE hb0 jF ?_
   (exact⟨[⟨23,0,0,0,6⟩,⟨2,3+(aG l (aB l p) 3),0,0,0⟩],(aB l (aB l p)),⟨(all_cons (qE ⟨ω,ω⟩) (all_cons (xc7 ⟨ω,ω⟩ ⟨ω,ω⟩) all_nil)),by simp⟩,(aH (aH k3)),by(first|rfl|simp only [go_sem]|(simp only [go_sem];rfl)),rfl,by simp only [go_sem]⟩)
  ·skip
   refine aA ?_;refine aO (x0) ?_;refine aF (oV 7) ?_;have d1:=dd (aB l p) 3 δ;refine aO (nx (aB l p) 3 δ (aH k3)) ?_;refine aF (xa5 (3+(aG l (aB l p) 3)) 0) ?_;refine dE hb0 jF ?_
   (exact⟨[⟨23,0,0,0,7⟩,⟨2,3+(aG l (aB l p) 3),0,0,0⟩],(aB l (aB l p)),⟨(all_cons (qE ⟨ω,ω⟩) (all_cons (xc7 ⟨ω,ω⟩ ⟨ω,ω⟩) all_nil)),by simp⟩,(aH (aH k3)),by(first|rfl|simp only [go_sem]|(simp only [go_sem];rfl)),rfl,by simp only [go_sem]⟩)
  ·skip
   refine aA ?_;refine aO (x0) ?_;refine aF (oV 15) ?_;have d1:=dd (aB l p) 3 δ;refine aO (nx (aB l p) 3 δ (aH k3)) ?_;refine aF (xa5 (3+(aG l (aB l p) 3)) 0) ?_;refine dE hb0 jF ?_
   (exact⟨[⟨23,0,0,0,15⟩,⟨2,3+(aG l (aB l p) 3),0,0,0⟩],(aB l (aB l p)),⟨(all_cons (qE ⟨ω,ω⟩) (all_cons (xc7 ⟨ω,ω⟩ ⟨ω,ω⟩) all_nil)),by simp⟩,(aH (aH k3)),by(first|rfl|simp only [go_sem]|(simp only [go_sem];rfl)),rfl,by simp only [go_sem]⟩)
 by_cases e14:z=14
 ·skip
  have x1:=nx (aB l p) 2 δ (aH k3);have c1:=dd (aB l p) 2 δ;have o1:aG l (aB l p) 2=0∨aG l (aB l p) 2=1:=ω;generalize aG l (aB l p) 2=b1 at x1 o1;clear c1;rcases o1 with rfl|rfl
  ·skip
   refine aA ?_;have d0:=dd p 3 δ;refine aO (nx p 3 δ k3) ?_;refine aF (pY 0 (aG l p 3)) ?_;refine aO (x1) ?_;refine aF (oV 8) ?_;refine dE hb0 jF ?_
   (exact⟨[⟨1,0,0,0,(aG l p 3)⟩,⟨23,0,0,0,8⟩],(aB l (aB l p)),⟨(all_cons (nZ ⟨ω,ω⟩ ⟨ω,ω⟩) (all_cons (qE ⟨ω,ω⟩) all_nil)),by simp⟩,(aH (aH k3)),by(first|rfl|simp only [go_sem]|(simp only [go_sem];rfl)),rfl,by simp only [go_sem]⟩)
  ·skip
   refine aA ?_;have d0:=dd p 3 δ;refine aO (nx p 3 δ k3) ?_;refine aF (pY 0 (aG l p 3)) ?_;refine aO (x1) ?_;refine aF (oV 9) ?_;refine dE hb0 jF ?_
   (exact⟨[⟨1,0,0,0,(aG l p 3)⟩,⟨23,0,0,0,9⟩],(aB l (aB l p)),⟨(all_cons (nZ ⟨ω,ω⟩ ⟨ω,ω⟩) (all_cons (qE ⟨ω,ω⟩) all_nil)),by simp⟩,(aH (aH k3)),by(first|rfl|simp only [go_sem]|(simp only [go_sem];rfl)),rfl,by simp only [go_sem]⟩)
 by_cases e15:z=15
 ·skip
  have x1:=nx (aB l p) 2 δ (aH k3);have c1:=dd (aB l p) 2 δ;have o1:aG l (aB l p) 2=0∨aG l (aB l p) 2=1:=ω;generalize aG l (aB l p) 2=b1 at x1 o1;clear c1;rcases o1 with rfl|rfl
  ·skip
   refine aA ?_;have d0:=dd p 3 δ;refine aO (nx p 3 δ k3) ?_;refine aF (pY 0 (aG l p 3)) ?_;refine aO (x1) ?_;refine aF (oV 8) ?_;refine dE hb0 jF ?_
   (exact⟨[⟨1,0,0,0,(aG l p 3)⟩,⟨23,0,0,0,8⟩],(aB l (aB l p)),⟨(all_cons (nZ ⟨ω,ω⟩ ⟨ω,ω⟩) (all_cons (qE ⟨ω,ω⟩) all_nil)),by simp⟩,(aH (aH k3)),by(first|rfl|simp only [go_sem]|(simp only [go_sem];rfl)),rfl,by simp only [go_sem]⟩)
  ·skip
   refine aA ?_;have d0:=dd p 3 δ;refine aO (nx p 3 δ k3) ?_;refine aF (pY 0 (aG l p 3)) ?_;refine aO (x1) ?_;refine aF (oV 9) ?_;refine dE hb0 jF ?_
   (exact⟨[⟨1,0,0,0,(aG l p 3)⟩,⟨23,0,0,0,9⟩],(aB l (aB l p)),⟨(all_cons (nZ ⟨ω,ω⟩ ⟨ω,ω⟩) (all_cons (qE ⟨ω,ω⟩) all_nil)),by simp⟩,(aH (aH k3)),by(first|rfl|simp only [go_sem]|(simp only [go_sem];rfl)),rfl,by simp only [go_sem]⟩)
 by_cases e16:z=16
 ·skip
  refine aA ?_;have d0:=dd p most ω;refine aO (nx p most ω k3) ?_;refine wU (pY 0 (aG l p most)) (xa5 1 3) (oV 10) ?_;refine dE hb0 jF ?_
  (exact⟨[⟨1,0,0,0,(aG l p most)⟩,⟨2,1,3,0,0⟩,⟨23,0,0,0,10⟩],(aB l p),⟨(all_cons (nZ ⟨ω,ω⟩ ⟨ω,ω⟩) (all_cons (xc7 ⟨ω,ω⟩ ⟨ω,ω⟩) (all_cons (qE ⟨ω,ω⟩) all_nil))),by simp⟩,(aH k3),by(first|rfl|simp only [go_sem]|(simp only [go_sem];rfl)),rfl,by simp only [go_sem]⟩)
 by_cases e17:z=17
 ·skip
  have x0:=nx p 2 δ k3;have c0:=dd p 2 δ;have o0:aG l p 2=0∨aG l p 2=1:=ω;generalize aG l p 2=b0 at x0 o0;clear c0;rcases o0 with rfl|rfl
  ·skip
   have x2:=nx (aB l (aB l p)) 2 δ (aH (aH k3));have c2:=dd (aB l (aB l p)) 2 δ;have o2:aG l (aB l (aB l p)) 2=0∨aG l (aB l (aB l p)) 2=1:=ω;generalize aG l (aB l (aB l p)) 2=b2 at x2 o2;clear c2;rcases o2 with rfl|rfl
   ·skip
    refine aA ?_;refine aO (x0) ?_;have d1:=dd (aB l p) most ω;refine aO (nx (aB l p) most ω (aH k3)) ?_;refine aF (pY 0 (aG l (aB l p) most)) ?_;refine aO (x2) ?_;refine aF (oV 12) ?_;refine dE hb0 jF ?_
    (exact⟨[⟨1,0,0,0,(aG l (aB l p) most)⟩,⟨23,0,0,0,12⟩],(aB l (aB l (aB l p))),⟨(all_cons (nZ ⟨ω,ω⟩ ⟨ω,ω⟩) (all_cons (qE ⟨ω,ω⟩) all_nil)),by simp⟩,(aH (aH (aH k3))),by(first|rfl|simp only [go_sem]|(simp only [go_sem];rfl)),rfl,by simp only [go_sem]⟩)
   ·skip
    refine aA ?_;refine aO (x0) ?_;have d1:=dd (aB l p) most ω;refine aO (nx (aB l p) most ω (aH k3)) ?_;refine aF (pY 0 (aG l (aB l p) most)) ?_;refine aO (x2) ?_;refine aF (oV 11) ?_;refine dE hb0 jF ?_
    (exact⟨[⟨1,0,0,0,(aG l (aB l p) most)⟩,⟨23,0,0,0,11⟩],(aB l (aB l (aB l p))),⟨(all_cons (nZ ⟨ω,ω⟩ ⟨ω,ω⟩) (all_cons (qE ⟨ω,ω⟩) all_nil)),by simp⟩,(aH (aH (aH k3))),by(first|rfl|simp only [go_sem]|(simp only [go_sem];rfl)),rfl,by simp only [go_sem]⟩)
  ·skip
   have x2:=nx (aB l (aB l p)) 2 δ (aH (aH k3));have c2:=dd (aB l (aB l p)) 2 δ;have o2:aG l (aB l (aB l p)) 2=0∨aG l (aB l (aB l p)) 2=1:=ω;generalize aG l (aB l (aB l p)) 2=b2 at x2 o2;clear c2;rcases o2 with rfl|rfl
   ·skip
    refine aA ?_;refine aO (x0) ?_;have d1:=dd (aB l p) 5 ω;refine aO (nx (aB l p) 5 ω (aH k3)) ?_;refine aF (pY 0 (aG l (aB l p) 5)) ?_;refine aO (x2) ?_;refine aF (oV 12) ?_;refine dE hb0 jF ?_
    (exact⟨[⟨1,0,0,0,(aG l (aB l p) 5)⟩,⟨23,0,0,0,12⟩],(aB l (aB l (aB l p))),⟨(all_cons (nZ ⟨ω,ω⟩ ⟨ω,ω⟩) (all_cons (qE ⟨ω,ω⟩) all_nil)),by simp⟩,(aH (aH (aH k3))),by(first|rfl|simp only [go_sem]|(simp only [go_sem];rfl)),rfl,by simp only [go_sem]⟩)
   ·skip
    refine aA ?_;refine aO (x0) ?_;have d1:=dd (aB l p) 5 ω;refine aO (nx (aB l p) 5 ω (aH k3)) ?_;refine aF (pY 0 (aG l (aB l p) 5)) ?_;refine aO (x2) ?_;refine aF (oV 11) ?_;refine dE hb0 jF ?_
    (exact⟨[⟨1,0,0,0,(aG l (aB l p) 5)⟩,⟨23,0,0,0,11⟩],(aB l (aB l (aB l p))),⟨(all_cons (nZ ⟨ω,ω⟩ ⟨ω,ω⟩) (all_cons (qE ⟨ω,ω⟩) all_nil)),by simp⟩,(aH (aH (aH k3))),by(first|rfl|simp only [go_sem]|(simp only [go_sem];rfl)),rfl,by simp only [go_sem]⟩)
 by_cases e18:z=18
 ·skip
  refine aA ?_;have d0:=dd p 4 δ;refine aO (nx p 4 δ k3) ?_;refine jC (pY 5 (1+(aG l p 4))) (pY 4 1) ?_;refine dE hb0 jF ?_
  (exact⟨[⟨1,5,0,0,1+(aG l p 4)⟩,⟨1,4,0,0,1⟩,⟨4,5,5,4,0⟩,⟨20,5,0,0,at0+2⟩],(aB l p),⟨(all_cons (nZ ⟨ω,ω⟩ ⟨ω,ω⟩) (all_cons (nZ ⟨ω,ω⟩ ⟨ω,ω⟩) (all_cons (xd1 δ ⟨ω,ω⟩ ⟨ω,ω⟩ ⟨ω,ω⟩) (all_cons (yrg ⟨ω,ω⟩ ⟨ω,ω⟩) all_nil)))),by simp⟩,(aH k3),by(first|rfl|simp only [go_sem]|(simp only [go_sem];rfl)),rfl,by simp only [go_sem]⟩)
 have e19:z=19:=ω;refine aA ?_;refine xfr (yme l p k3 s.length most ⟨ω,ω⟩ ⟨ω,ω⟩) rfl τ rfl φ φ φ (by first|rfl|(simp only [go_sem];done)|(simp only [go_sem];rfl)) fun x obs d hR=>?_;obtain⟨i,k2,hi,hk2,rfl,rfl,rfl⟩:=hR;simp only [V.shift,V.shifts,List.map_nil,List.append_nil,List.set_cons_zero];refine aA ?_;refine dE hb0 jF ?_
 (exact⟨[i],k2,⟨all_cons hi all_nil,by simp⟩,hk2,by(first|rfl|simp only [go_sem]|(simp only [go_sem];rfl)),rfl,by simp only [go_sem]⟩)
end Go.Proofs.YthmjocibdepahaaGreat
