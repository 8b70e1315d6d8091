import Derived.Test.YtbgpfigkcpmnfaaGreatA8
import Derived.Test.YtbgpfigkcpmnfaaGreatA40
import Derived.Test.YtbgpfigkcpmnfaaGreatA6
set_option linter.unusedSimpArgs false
set_option linter.unusedVariables false
set_option maxHeartbeats 64000000
set_option maxRecDepth 100000
namespace Go.Proofs.YtbgpfigkcpmnfaaGreat
open Go Go.RowKit Rdn Rdn.Dp
def preL (S:Int) (l:List PInstr):Prop:=(∀i∈l,preI S i)∧l.length≤5
theorem xg3 {S a r:Int} (ha:0≤a∧a<8) (h0:0≤r) (h1:r<S) (hS:S≤4):preI S ⟨15,a,0,0,r⟩:=xch (u0:=true) (u1:=false) (u2:=false) (u3:=true) rfl (by decide) ha (by decide) (by decide) ⟨h0,by omega⟩ (fun h=>by cases h) (fun _=>rfl) (fun _=>rfl) (fun h=>by cases h) (fun _=>h1) (fun h=>by cases h)
theorem xcg {S a v:Int} (ha:0≤a∧a<8) (hv:0≤v∧v≤65535):preI S ⟨1,a,0,0,v⟩:=xch (u0:=true) (u1:=false) (u2:=false) (u3:=true) rfl (by decide) ha (by decide) (by decide) hv (fun h=>by cases h) (fun _=>rfl) (fun _=>rfl) (fun h=>by cases h) (fun h=>by cases h) (fun h=>by cases h)
theorem xg4 {S a b:Int} (ha:0≤a∧a<8) (hb:0≤b∧b<8):preI S ⟨2,a,b,0,0⟩:=xch (u0:=true) (u1:=true) (u2:=false) (u3:=false) rfl (by decide) ha hb (by decide) (by decide) (fun h=>by cases h) (fun h=>by cases h) (fun _=>rfl) (fun _=>rfl) (fun h=>by cases h) (fun h=>by cases h)
theorem xby {S n:Int} (hn:0≤n∧n≤15):preI S ⟨23,0,0,0,n⟩:=xch (u0:=false) (u1:=false) (u2:=false) (u3:=true) rfl (by decide) (by decide) (by decide) (by decide) ⟨hn.1,by omega⟩ (fun _=>rfl) (fun _=>rfl) (fun _=>rfl) (fun h=>by cases h) (fun h=>by cases h) (fun _=>hn.2)
theorem xlp {S op a b m:Int} (ho:op=16∨op=17) (ha:0≤a∧a<8) (hb:0≤b∧b<8) (hm:0≤m∧m≤65535):preI S ⟨op,a,b,0,m⟩:=xch (u0:=true) (u1:=true) (u2:=false) (u3:=true) (by rcases ho with rfl|rfl<;>rfl) (by omega) ha hb (by decide) hm (fun h=>by cases h) (fun h=>by cases h) (fun _=>rfl) (fun h=>by cases h) (fun h=>by omega) (fun h=>by omega)
theorem xh3 {S op a b c:Int} (ho:3≤op∧op≤14) (ha:0≤a∧a<8) (hb:0≤b∧b<8) (hc:0≤c∧c<8):preI S ⟨op,a,b,c,0⟩:=xch (u0:=true) (u1:=true) (u2:=true) (u3:=false) (by unfold xd7;repeat(first|rw [if_pos (by omega)]|rw [if_neg (by omega)])) (by omega) ha hb hc (by decide) (fun h=>by cases h) (fun h=>by cases h) (fun h=>by cases h) (fun _=>rfl) (fun h=>by omega) (fun h=>by omega)
theorem yhg {S a m:Int} (ha:0≤a∧a<8) (hm:0≤m∧m≤65535):preI S ⟨20,a,0,0,m⟩:=xch (u0:=true) (u1:=false) (u2:=false) (u3:=true) rfl (by decide) ha (by decide) (by decide) hm (fun h=>by cases h) (fun _=>rfl) (fun _=>rfl) (fun h=>by cases h) (fun h=>by cases h) (fun h=>by cases h)
theorem all_nil {P:PInstr→Prop}:∀i∈([]:List PInstr),P i:=fun i hi=>by cases hi
theorem all_cons {P:PInstr→Prop} {a:PInstr} {l:List PInstr} (h:P a) (k:∀i∈l,P i):∀i∈a::l,P i:=fun i hi=>by
 rcases List.mem_cons.1 hi with rfl|hi
 ·exact h
 ·exact k i hi
theorem ykr (l:List Int) (k:Nat) (hk:k≤l.length) (s:List Int) (hs:okSz s) (most at0:Int) (hm:1≤most∧most≤65) (ha:0≤at0∧at0≤64):FncM Tryz.prog 37 84 (xcu l k) [.sl false 1 (i64s s),.int .i64 most,.int .i64 at0] (fun x obs c=>∃(out:List PInstr) (k':Nat),preL s.length out∧k'≤l.length∧x=.sl false 5 (out.map xcj)∧obs=[]∧c=xcu l k'):=by
 refine zcf Tryz.prog 37 fun mz=>?_;refine FncM.low ?_;obtain⟨s1,s2,s3⟩:=id hs;have dd:∀(q:Nat) (m:Int),0<m→0≤dnx l q m∧dnx l q m<m:=fun q m h=>⟨xc0 h,xc1 h⟩;have f1:=xav l k s.length hk (by omega);have r1:=dd k s.length (by omega);have k1:=xa4 hk;have k2:=xa4 k1;have k3:=xa4 k2;generalize hr:dnx l k s.length=r at f1 r1;clear hr;have sz:=s1 _ (xam (l:=s) (k:=r.toNat) (by omega));have mp:0<(if s[r.toNat]!+1<5 then s[r.toNat]!+1 else 5)∧(if s[r.toNat]!+1<5 then s[r.toNat]!+1 else 5)≤5:=by split<;>omega
 have f2:=xav l (dkx l k) (if s[r.toNat]!+1<5 then s[r.toNat]!+1 else 5) k1 mp.1;have n1:=dd (dkx l k) (if s[r.toNat]!+1<5 then s[r.toNat]!+1 else 5) mp.1;generalize hn:dnx l (dkx l k) (if s[r.toNat]!+1<5 then s[r.toNat]!+1 else 5)=n0 at f2 n1;clear hn;have n2:n0<5:=by omega
 have f3:=xav l (dkx l (dkx l k)) 20 k2 (by decide);have z1:=dd (dkx l (dkx l k)) 20 (by decide);generalize hz:dnx l (dkx l (dkx l k)) 20=z at f3 z1;clear hz;generalize hp:dkx l (dkx l (dkx l k))=p at f3 k3;clear hp;have z8:(0:Int)≤0∧(0:Int)<8:=by decide
 have z8':∀v:Int,0≤v→v<8→0≤v∧v<8:=fun v a b=>⟨a,b⟩;have nx:=fun q (m:Int) (hm:0<m) hq=>xav l q m hq hm;have nw:=fun q hq=>xtn l q hq;refine zgM mz fun W S b0 hb0=>?_;refine zcm (f1) ?_;refine zcm (f2) ?_;refine zcd (xfg 2 n0) ?_;refine zcm (f3) ?_;by_cases e0:z=0
 ·skip
  refine zst ?_;have d0:=dd p 3 (by decide);refine zcm (nx p 3 (by decide) k3) ?_;have d1:=xxm l (dkx l p);refine zcm (nw (dkx l p) (xa4 k3)) ?_;refine zcd (xfg (3+(dnx l p 3)) (dwd l (dkx l p))) ?_;refine zrM hb0 mz ?_
  (exact⟨[⟨1,3+(dnx l p 3),0,0,(dwd l (dkx l p))⟩],(dkx l (dkx l (dkx l p))),⟨(all_cons (xcg ⟨by omega,by omega⟩ ⟨by omega,by omega⟩) all_nil),by simp⟩,(xa4 (xa4 (xa4 k3))),by(first|rfl|simp only [go_sem]|(simp only [go_sem];rfl)),rfl,by simp only [go_sem]⟩)
 by_cases e1:z=1
 ·skip
  have x0:=nx p 8 (by decide) k3;have c0:=dd p 8 (by decide);have o0:dnx l p 8=0∨dnx l p 8=1∨dnx l p 8=2∨dnx l p 8=3∨dnx l p 8=4∨dnx l p 8=5∨dnx l p 8=6∨dnx l p 8=7:=by omega
  generalize dnx l p 8=b0 at x0 o0;clear c0;rcases o0 with rfl|rfl|rfl|rfl|rfl|rfl|rfl|rfl
  ·skip
   refine zst ?_;refine zcm (x0) ?_;have d1:=dd (dkx l p) 3 (by decide);refine zcm (nx (dkx l p) 3 (by decide) (xa4 k3)) ?_;have d2:=dd (dkx l (dkx l p)) 3 (by decide);refine zcm (nx (dkx l (dkx l p)) 3 (by decide) (xa4 (xa4 k3))) ?_;have d3:=dd (dkx l (dkx l (dkx l p))) 3 (by decide);refine zcm (nx (dkx l (dkx l (dkx l p))) 3 (by decide) (xa4 (xa4 (xa4 k3)))) ?_;refine zrM hb0 mz ?_
   (exact⟨[⟨3,3+(dnx l (dkx l p) 3),3+(dnx l (dkx l (dkx l p)) 3),3+(dnx l (dkx l (dkx l (dkx l p))) 3),0⟩],(dkx l (dkx l (dkx l (dkx l p)))),⟨(all_cons (xh3 (by decide) ⟨by omega,by omega⟩ ⟨by omega,by omega⟩ ⟨by omega,by omega⟩) all_nil),by simp⟩,(xa4 (xa4 (xa4 (xa4 k3)))),by(first|rfl|simp only [go_sem]|(simp only [go_sem];rfl)),rfl,by simp only [go_sem]⟩)
  ·skip
   refine zst ?_;refine zcm (x0) ?_;have d1:=dd (dkx l p) 3 (by decide);refine zcm (nx (dkx l p) 3 (by decide) (xa4 k3)) ?_;have d2:=dd (dkx l (dkx l p)) 3 (by decide);refine zcm (nx (dkx l (dkx l p)) 3 (by decide) (xa4 (xa4 k3))) ?_;have d3:=dd (dkx l (dkx l (dkx l p))) 3 (by decide);refine zcm (nx (dkx l (dkx l (dkx l p))) 3 (by decide) (xa4 (xa4 (xa4 k3)))) ?_;refine zrM hb0 mz ?_
   (exact⟨[⟨4,3+(dnx l (dkx l p) 3),3+(dnx l (dkx l (dkx l p)) 3),3+(dnx l (dkx l (dkx l (dkx l p))) 3),0⟩],(dkx l (dkx l (dkx l (dkx l p)))),⟨(all_cons (xh3 (by decide) ⟨by omega,by omega⟩ ⟨by omega,by omega⟩ ⟨by omega,by omega⟩) all_nil),by simp⟩,(xa4 (xa4 (xa4 (xa4 k3)))),by(first|rfl|simp only [go_sem]|(simp only [go_sem];rfl)),rfl,by simp only [go_sem]⟩)
  ·skip
   refine zst ?_;refine zcm (x0) ?_;have d1:=dd (dkx l p) 3 (by decide);refine zcm (nx (dkx l p) 3 (by decide) (xa4 k3)) ?_;have d2:=dd (dkx l (dkx l p)) 3 (by decide);refine zcm (nx (dkx l (dkx l p)) 3 (by decide) (xa4 (xa4 k3))) ?_;have d3:=dd (dkx l (dkx l (dkx l p))) 3 (by decide);refine zcm (nx (dkx l (dkx l (dkx l p))) 3 (by decide) (xa4 (xa4 (xa4 k3)))) ?_;refine zrM hb0 mz ?_
   (exact⟨[⟨5,3+(dnx l (dkx l p) 3),3+(dnx l (dkx l (dkx l p)) 3),3+(dnx l (dkx l (dkx l (dkx l p))) 3),0⟩],(dkx l (dkx l (dkx l (dkx l p)))),⟨(all_cons (xh3 (by decide) ⟨by omega,by omega⟩ ⟨by omega,by omega⟩ ⟨by omega,by omega⟩) all_nil),by simp⟩,(xa4 (xa4 (xa4 (xa4 k3)))),by(first|rfl|simp only [go_sem]|(simp only [go_sem];rfl)),rfl,by simp only [go_sem]⟩)
  ·skip
   refine zst ?_;refine zcm (x0) ?_;have d1:=dd (dkx l p) 3 (by decide);refine zcm (nx (dkx l p) 3 (by decide) (xa4 k3)) ?_;have d2:=dd (dkx l (dkx l p)) 3 (by decide);refine zcm (nx (dkx l (dkx l p)) 3 (by decide) (xa4 (xa4 k3))) ?_;have d3:=dd (dkx l (dkx l (dkx l p))) 3 (by decide);refine zcm (nx (dkx l (dkx l (dkx l p))) 3 (by decide) (xa4 (xa4 (xa4 k3)))) ?_;refine zrM hb0 mz ?_
   (exact⟨[⟨10,3+(dnx l (dkx l p) 3),3+(dnx l (dkx l (dkx l p)) 3),3+(dnx l (dkx l (dkx l (dkx l p))) 3),0⟩],(dkx l (dkx l (dkx l (dkx l p)))),⟨(all_cons (xh3 (by decide) ⟨by omega,by omega⟩ ⟨by omega,by omega⟩ ⟨by omega,by omega⟩) all_nil),by simp⟩,(xa4 (xa4 (xa4 (xa4 k3)))),by(first|rfl|simp only [go_sem]|(simp only [go_sem];rfl)),rfl,by simp only [go_sem]⟩)
  ·skip
   refine zst ?_;refine zcm (x0) ?_;have d1:=dd (dkx l p) 3 (by decide);refine zcm (nx (dkx l p) 3 (by decide) (xa4 k3)) ?_;have d2:=dd (dkx l (dkx l p)) 3 (by decide);refine zcm (nx (dkx l (dkx l p)) 3 (by decide) (xa4 (xa4 k3))) ?_;have d3:=dd (dkx l (dkx l (dkx l p))) 3 (by decide);refine zcm (nx (dkx l (dkx l (dkx l p))) 3 (by decide) (xa4 (xa4 (xa4 k3)))) ?_;refine zrM hb0 mz ?_
   (exact⟨[⟨13,3+(dnx l (dkx l p) 3),3+(dnx l (dkx l (dkx l p)) 3),3+(dnx l (dkx l (dkx l (dkx l p))) 3),0⟩],(dkx l (dkx l (dkx l (dkx l p)))),⟨(all_cons (xh3 (by decide) ⟨by omega,by omega⟩ ⟨by omega,by omega⟩ ⟨by omega,by omega⟩) all_nil),by simp⟩,(xa4 (xa4 (xa4 (xa4 k3)))),by(first|rfl|simp only [go_sem]|(simp only [go_sem];rfl)),rfl,by simp only [go_sem]⟩)
  ·skip
   refine zst ?_;refine zcm (x0) ?_;have d1:=dd (dkx l p) 3 (by decide);refine zcm (nx (dkx l p) 3 (by decide) (xa4 k3)) ?_;have d2:=dd (dkx l (dkx l p)) 3 (by decide);refine zcm (nx (dkx l (dkx l p)) 3 (by decide) (xa4 (xa4 k3))) ?_;have d3:=dd (dkx l (dkx l (dkx l p))) 3 (by decide);refine zcm (nx (dkx l (dkx l (dkx l p))) 3 (by decide) (xa4 (xa4 (xa4 k3)))) ?_;refine zrM hb0 mz ?_
   (exact⟨[⟨14,3+(dnx l (dkx l p) 3),3+(dnx l (dkx l (dkx l p)) 3),3+(dnx l (dkx l (dkx l (dkx l p))) 3),0⟩],(dkx l (dkx l (dkx l (dkx l p)))),⟨(all_cons (xh3 (by decide) ⟨by omega,by omega⟩ ⟨by omega,by omega⟩ ⟨by omega,by omega⟩) all_nil),by simp⟩,(xa4 (xa4 (xa4 (xa4 k3)))),by(first|rfl|simp only [go_sem]|(simp only [go_sem];rfl)),rfl,by simp only [go_sem]⟩)
  ·skip
   refine zst ?_;refine zcm (x0) ?_;have d1:=dd (dkx l p) 3 (by decide);refine zcm (nx (dkx l p) 3 (by decide) (xa4 k3)) ?_;have d2:=dd (dkx l (dkx l p)) 3 (by decide);refine zcm (nx (dkx l (dkx l p)) 3 (by decide) (xa4 (xa4 k3))) ?_;have d3:=dd (dkx l (dkx l (dkx l p))) 3 (by decide);refine zcm (nx (dkx l (dkx l (dkx l p))) 3 (by decide) (xa4 (xa4 (xa4 k3)))) ?_;refine zrM hb0 mz ?_
   (exact⟨[⟨11,3+(dnx l (dkx l p) 3),3+(dnx l (dkx l (dkx l p)) 3),3+(dnx l (dkx l (dkx l (dkx l p))) 3),0⟩],(dkx l (dkx l (dkx l (dkx l p)))),⟨(all_cons (xh3 (by decide) ⟨by omega,by omega⟩ ⟨by omega,by omega⟩ ⟨by omega,by omega⟩) all_nil),by simp⟩,(xa4 (xa4 (xa4 (xa4 k3)))),by(first|rfl|simp only [go_sem]|(simp only [go_sem];rfl)),rfl,by simp only [go_sem]⟩)
  ·skip
   refine zst ?_;refine zcm (x0) ?_;have d1:=dd (dkx l p) 3 (by decide);refine zcm (nx (dkx l p) 3 (by decide) (xa4 k3)) ?_;have d2:=dd (dkx l (dkx l p)) 3 (by decide);refine zcm (nx (dkx l (dkx l p)) 3 (by decide) (xa4 (xa4 k3))) ?_;have d3:=dd (dkx l (dkx l (dkx l p))) 3 (by decide);refine zcm (nx (dkx l (dkx l (dkx l p))) 3 (by decide) (xa4 (xa4 (xa4 k3)))) ?_;refine zrM hb0 mz ?_
   (exact⟨[⟨9,3+(dnx l (dkx l p) 3),3+(dnx l (dkx l (dkx l p)) 3),3+(dnx l (dkx l (dkx l (dkx l p))) 3),0⟩],(dkx l (dkx l (dkx l (dkx l p)))),⟨(all_cons (xh3 (by decide) ⟨by omega,by omega⟩ ⟨by omega,by omega⟩ ⟨by omega,by omega⟩) all_nil),by simp⟩,(xa4 (xa4 (xa4 (xa4 k3)))),by(first|rfl|simp only [go_sem]|(simp only [go_sem];rfl)),rfl,by simp only [go_sem]⟩)
 by_cases e2:z=2
 ·skip
  refine zst ?_;refine zrM hb0 mz ?_
  (exact⟨[⟨15,6,0,0,r⟩],p,⟨(all_cons (xg3 ⟨by omega,by omega⟩ r1.1 r1.2 (by omega)) all_nil),by simp⟩,k3,by(first|rfl|simp only [go_sem]|(simp only [go_sem];rfl)),rfl,by simp only [go_sem]⟩)
 by_cases e3:z=3
 ·skip
  refine zst ?_;have d0:=dd p 5 (by decide);refine zcm (nx p 5 (by decide) k3) ?_;have d1:=dd (dkx l p) s[r.toNat]! (by omega);refine zcm (nx (dkx l p) s[r.toNat]! (by omega) (xa4 k3)) ?_;refine zrM hb0 mz ?_
  (exact⟨[⟨15,6,0,0,r⟩,⟨17,6,3+(dnx l p 5),0,(dnx l (dkx l p) s[r.toNat]!)⟩],(dkx l (dkx l p)),⟨(all_cons (xg3 ⟨by omega,by omega⟩ r1.1 r1.2 (by omega)) (all_cons (xlp (.inr rfl) ⟨by omega,by omega⟩ ⟨by omega,by omega⟩ ⟨by omega,by omega⟩) all_nil)),by simp⟩,(xa4 (xa4 k3)),by(first|rfl|simp only [go_sem]|(simp only [go_sem];rfl)),rfl,by simp only [go_sem]⟩)
 by_cases e4:z=4
 ·skip
  refine zst ?_;have d0:=dd p 5 (by decide);refine zcm (nx p 5 (by decide) k3) ?_;have d1:=dd (dkx l p) s[r.toNat]! (by omega);refine zcm (nx (dkx l p) s[r.toNat]! (by omega) (xa4 k3)) ?_;refine zrM hb0 mz ?_
  (exact⟨[⟨15,6,0,0,r⟩,⟨17,6,3+(dnx l p 5),0,(dnx l (dkx l p) s[r.toNat]!)⟩],(dkx l (dkx l p)),⟨(all_cons (xg3 ⟨by omega,by omega⟩ r1.1 r1.2 (by omega)) (all_cons (xlp (.inr rfl) ⟨by omega,by omega⟩ ⟨by omega,by omega⟩ ⟨by omega,by omega⟩) all_nil)),by simp⟩,(xa4 (xa4 k3)),by(first|rfl|simp only [go_sem]|(simp only [go_sem];rfl)),rfl,by simp only [go_sem]⟩)
 by_cases e5:z=5
 ·skip
  refine zst ?_;have d0:=dd p 4 (by decide);refine zcm (nx p 4 (by decide) k3) ?_;have d1:=dd (dkx l p) s[r.toNat]! (by omega);refine zcm (nx (dkx l p) s[r.toNat]! (by omega) (xa4 k3)) ?_;refine zrM hb0 mz ?_
  (exact⟨[⟨15,6,0,0,r⟩,⟨16,3+(dnx l p 4),6,0,(dnx l (dkx l p) s[r.toNat]!)⟩],(dkx l (dkx l p)),⟨(all_cons (xg3 ⟨by omega,by omega⟩ r1.1 r1.2 (by omega)) (all_cons (xlp (.inl rfl) ⟨by omega,by omega⟩ ⟨by omega,by omega⟩ ⟨by omega,by omega⟩) all_nil)),by simp⟩,(xa4 (xa4 k3)),by(first|rfl|simp only [go_sem]|(simp only [go_sem];rfl)),rfl,by simp only [go_sem]⟩)
 by_cases e6:z=6
 ·skip
  refine zst ?_;have d0:=dd p 4 (by decide);refine zcm (nx p 4 (by decide) k3) ?_;have d1:=dd (dkx l p) s[r.toNat]! (by omega);refine zcm (nx (dkx l p) s[r.toNat]! (by omega) (xa4 k3)) ?_;refine zrM hb0 mz ?_
  (exact⟨[⟨15,6,0,0,r⟩,⟨16,3+(dnx l p 4),6,0,(dnx l (dkx l p) s[r.toNat]!)⟩],(dkx l (dkx l p)),⟨(all_cons (xg3 ⟨by omega,by omega⟩ r1.1 r1.2 (by omega)) (all_cons (xlp (.inl rfl) ⟨by omega,by omega⟩ ⟨by omega,by omega⟩ ⟨by omega,by omega⟩) all_nil)),by simp⟩,(xa4 (xa4 k3)),by(first|rfl|simp only [go_sem]|(simp only [go_sem];rfl)),rfl,by simp only [go_sem]⟩)
 by_cases e7:z=7
 ·skip
  refine zst ?_;have d0:=dd p 3 (by decide);refine zcm (nx p 3 (by decide) k3) ?_;refine zcd (xfg 0 (dnx l p 3)) ?_;refine zcd (xbf 13) ?_;refine zrM hb0 mz ?_
  (exact⟨[⟨1,0,0,0,(dnx l p 3)⟩,⟨15,1,0,0,r⟩,⟨1,2,0,0,n0⟩,⟨23,0,0,0,13⟩],(dkx l p),⟨(all_cons (xcg ⟨by omega,by omega⟩ ⟨by omega,by omega⟩) (all_cons (xg3 ⟨by omega,by omega⟩ r1.1 r1.2 (by omega)) (all_cons (xcg ⟨by omega,by omega⟩ ⟨by omega,by omega⟩) (all_cons (xby ⟨by omega,by omega⟩) all_nil)))),by simp⟩,(xa4 k3),by(first|rfl|simp only [go_sem]|(simp only [go_sem];rfl)),rfl,by simp only [go_sem]⟩)
 by_cases e8:z=8
 ·skip
  refine zst ?_;have d0:=dd p 3 (by decide);refine zcm (nx p 3 (by decide) k3) ?_;refine zcd (xfg 0 (dnx l p 3)) ?_;refine zcd (xbf 13) ?_;refine zrM hb0 mz ?_
  (exact⟨[⟨1,0,0,0,(dnx l p 3)⟩,⟨15,1,0,0,r⟩,⟨1,2,0,0,n0⟩,⟨23,0,0,0,13⟩],(dkx l p),⟨(all_cons (xcg ⟨by omega,by omega⟩ ⟨by omega,by omega⟩) (all_cons (xg3 ⟨by omega,by omega⟩ r1.1 r1.2 (by omega)) (all_cons (xcg ⟨by omega,by omega⟩ ⟨by omega,by omega⟩) (all_cons (xby ⟨by omega,by omega⟩) all_nil)))),by simp⟩,(xa4 k3),by(first|rfl|simp only [go_sem]|(simp only [go_sem];rfl)),rfl,by simp only [go_sem]⟩)
 by_cases e9:z=9
 ·skip
  refine zst ?_;have d0:=dd p 3 (by decide);refine zcm (nx p 3 (by decide) k3) ?_;refine zcd (xfg 0 (dnx l p 3)) ?_;refine zcd (xbf 14) ?_;refine zcd (xhb 3 0) ?_;refine zrM hb0 mz ?_
  (exact⟨[⟨1,0,0,0,(dnx l p 3)⟩,⟨15,1,0,0,r⟩,⟨1,2,0,0,n0⟩,⟨23,0,0,0,14⟩,⟨2,3,0,0,0⟩],(dkx l p),⟨(all_cons (xcg ⟨by omega,by omega⟩ ⟨by omega,by omega⟩) (all_cons (xg3 ⟨by omega,by omega⟩ r1.1 r1.2 (by omega)) (all_cons (xcg ⟨by omega,by omega⟩ ⟨by omega,by omega⟩) (all_cons (xby ⟨by omega,by omega⟩) (all_cons (xg4 ⟨by omega,by omega⟩ ⟨by omega,by omega⟩) all_nil))))),by simp⟩,(xa4 k3),by(first|rfl|simp only [go_sem]|(simp only [go_sem];rfl)),rfl,by simp only [go_sem]⟩)
 by_cases e10:z=10
 ·skip
  refine zst ?_;have d0:=dd p 3 (by decide);refine zcm (nx p 3 (by decide) k3) ?_;refine zcd (xfg 0 (dnx l p 3)) ?_;have d1:=dd (dkx l p) 4 (by decide);refine zcm (nx (dkx l p) 4 (by decide) (xa4 k3)) ?_;refine zcd (xfg 1 (dnx l (dkx l p) 4)) ?_;refine zcd (xbf 3) ?_;refine zcd (xhb 7 0) ?_;refine zrM hb0 mz ?_
  (exact⟨[⟨1,0,0,0,(dnx l p 3)⟩,⟨1,1,0,0,(dnx l (dkx l p) 4)⟩,⟨23,0,0,0,3⟩,⟨2,7,0,0,0⟩],(dkx l (dkx l p)),⟨(all_cons (xcg ⟨by omega,by omega⟩ ⟨by omega,by omega⟩) (all_cons (xcg ⟨by omega,by omega⟩ ⟨by omega,by omega⟩) (all_cons (xby ⟨by omega,by omega⟩) (all_cons (xg4 ⟨by omega,by omega⟩ ⟨by omega,by omega⟩) all_nil)))),by simp⟩,(xa4 (xa4 k3)),by(first|rfl|simp only [go_sem]|(simp only [go_sem];rfl)),rfl,by simp only [go_sem]⟩)
 by_cases e11:z=11
 ·skip
  have x0:=nx p 2 (by decide) k3;have c0:=dd p 2 (by decide);have o0:dnx l p 2=0∨dnx l p 2=1:=by omega
  generalize dnx l p 2=b0 at x0 o0;clear c0;rcases o0 with rfl|rfl
  ·skip
   refine zst ?_;refine zcd (xhb 0 7) ?_;refine zcm (x0) ?_;refine zcd (xbf 1) ?_;refine zrM hb0 mz ?_
   (exact⟨[⟨2,0,7,0,0⟩,⟨15,1,0,0,r⟩,⟨1,2,0,0,n0⟩,⟨23,0,0,0,1⟩],(dkx l p),⟨(all_cons (xg4 ⟨by omega,by omega⟩ ⟨by omega,by omega⟩) (all_cons (xg3 ⟨by omega,by omega⟩ r1.1 r1.2 (by omega)) (all_cons (xcg ⟨by omega,by omega⟩ ⟨by omega,by omega⟩) (all_cons (xby ⟨by omega,by omega⟩) all_nil)))),by simp⟩,(xa4 k3),by(first|rfl|simp only [go_sem]|(simp only [go_sem];rfl)),rfl,by simp only [go_sem]⟩)
  ·skip
   refine zst ?_;refine zcd (xhb 0 7) ?_;refine zcm (x0) ?_;refine zcd (xbf 2) ?_;refine zrM hb0 mz ?_
   (exact⟨[⟨2,0,7,0,0⟩,⟨15,1,0,0,r⟩,⟨1,2,0,0,n0⟩,⟨23,0,0,0,2⟩],(dkx l p),⟨(all_cons (xg4 ⟨by omega,by omega⟩ ⟨by omega,by omega⟩) (all_cons (xg3 ⟨by omega,by omega⟩ r1.1 r1.2 (by omega)) (all_cons (xcg ⟨by omega,by omega⟩ ⟨by omega,by omega⟩) (all_cons (xby ⟨by omega,by omega⟩) all_nil)))),by simp⟩,(xa4 k3),by(first|rfl|simp only [go_sem]|(simp only [go_sem];rfl)),rfl,by simp only [go_sem]⟩)
 by_cases e12:z=12
 ·skip
  have x1:=nx (dkx l p) 2 (by decide) (xa4 k3);have c1:=dd (dkx l p) 2 (by decide);have o1:dnx l (dkx l p) 2=0∨dnx l (dkx l p) 2=1:=by omega
  generalize dnx l (dkx l p) 2=b1 at x1 o1;clear c1;rcases o1 with rfl|rfl
  ·skip
   refine zst ?_;refine zcd (xhb 0 7) ?_;refine zcd (xbf 4) ?_;refine zcd (xhb 0 7) ?_;have d0:=dd p 4 (by decide);refine zcm (nx p 4 (by decide) k3) ?_;refine zcd (xfg 1 (dnx l p 4)) ?_;refine zcd (xbf 5) ?_;refine zcm (x1) ?_;refine zrM hb0 mz ?_
   (exact⟨[⟨2,0,7,0,0⟩,⟨23,0,0,0,4⟩],(dkx l (dkx l p)),⟨(all_cons (xg4 ⟨by omega,by omega⟩ ⟨by omega,by omega⟩) (all_cons (xby ⟨by omega,by omega⟩) all_nil)),by simp⟩,(xa4 (xa4 k3)),by(first|rfl|simp only [go_sem]|(simp only [go_sem];rfl)),rfl,by simp only [go_sem]⟩)
  ·skip
   refine zst ?_;refine zcd (xhb 0 7) ?_;refine zcd (xbf 4) ?_;refine zcd (xhb 0 7) ?_;have d0:=dd p 4 (by decide);refine zcm (nx p 4 (by decide) k3) ?_;refine zcd (xfg 1 (dnx l p 4)) ?_;refine zcd (xbf 5) ?_;refine zcm (x1) ?_;refine zrM hb0 mz ?_
   (exact⟨[⟨2,0,7,0,0⟩,⟨1,1,0,0,(dnx l p 4)⟩,⟨23,0,0,0,5⟩],(dkx l (dkx l p)),⟨(all_cons (xg4 ⟨by omega,by omega⟩ ⟨by omega,by omega⟩) (all_cons (xcg ⟨by omega,by omega⟩ ⟨by omega,by omega⟩) (all_cons (xby ⟨by omega,by omega⟩) all_nil))),by simp⟩,(xa4 (xa4 k3)),by(first|rfl|simp only [go_sem]|(simp only [go_sem];rfl)),rfl,by simp only [go_sem]⟩)
 by_cases e13:z=13
 ·skip
  have x0:=nx p 3 (by decide) k3;have c0:=dd p 3 (by decide);have o0:dnx l p 3=0∨dnx l p 3=1∨dnx l p 3=2:=by omega
  generalize dnx l p 3=b0 at x0 o0;clear c0;rcases o0 with rfl|rfl|rfl
  ·skip
   refine zst ?_;refine zcm (x0) ?_;refine zcd (xbf 6) ?_;have d1:=dd (dkx l p) 3 (by decide);refine zcm (nx (dkx l p) 3 (by decide) (xa4 k3)) ?_;refine zcd (xhb (3+(dnx l (dkx l p) 3)) 0) ?_;refine zrM hb0 mz ?_
   (exact⟨[⟨23,0,0,0,6⟩,⟨2,3+(dnx l (dkx l p) 3),0,0,0⟩],(dkx l (dkx l p)),⟨(all_cons (xby ⟨by omega,by omega⟩) (all_cons (xg4 ⟨by omega,by omega⟩ ⟨by omega,by omega⟩) all_nil)),by simp⟩,(xa4 (xa4 k3)),by(first|rfl|simp only [go_sem]|(simp only [go_sem];rfl)),rfl,by simp only [go_sem]⟩)
  ·skip
   refine zst ?_;refine zcm (x0) ?_;refine zcd (xbf 7) ?_;have d1:=dd (dkx l p) 3 (by decide);refine zcm (nx (dkx l p) 3 (by decide) (xa4 k3)) ?_;refine zcd (xhb (3+(dnx l (dkx l p) 3)) 0) ?_;refine zrM hb0 mz ?_
   (exact⟨[⟨23,0,0,0,7⟩,⟨2,3+(dnx l (dkx l p) 3),0,0,0⟩],(dkx l (dkx l p)),⟨(all_cons (xby ⟨by omega,by omega⟩) (all_cons (xg4 ⟨by omega,by omega⟩ ⟨by omega,by omega⟩) all_nil)),by simp⟩,(xa4 (xa4 k3)),by(first|rfl|simp only [go_sem]|(simp only [go_sem];rfl)),rfl,by simp only [go_sem]⟩)
  ·skip
   refine zst ?_;refine zcm (x0) ?_;refine zcd (xbf 15) ?_;have d1:=dd (dkx l p) 3 (by decide);refine zcm (nx (dkx l p) 3 (by decide) (xa4 k3)) ?_;refine zcd (xhb (3+(dnx l (dkx l p) 3)) 0) ?_;refine zrM hb0 mz ?_
   (exact⟨[⟨23,0,0,0,15⟩,⟨2,3+(dnx l (dkx l p) 3),0,0,0⟩],(dkx l (dkx l p)),⟨(all_cons (xby ⟨by omega,by omega⟩) (all_cons (xg4 ⟨by omega,by omega⟩ ⟨by omega,by omega⟩) all_nil)),by simp⟩,(xa4 (xa4 k3)),by(first|rfl|simp only [go_sem]|(simp only [go_sem];rfl)),rfl,by simp only [go_sem]⟩)
 by_cases e14:z=14
 ·skip
  have x1:=nx (dkx l p) 2 (by decide) (xa4 k3);have c1:=dd (dkx l p) 2 (by decide);have o1:dnx l (dkx l p) 2=0∨dnx l (dkx l p) 2=1:=by omega
  generalize dnx l (dkx l p) 2=b1 at x1 o1;clear c1;rcases o1 with rfl|rfl
  ·skip
   refine zst ?_;have d0:=dd p 3 (by decide);refine zcm (nx p 3 (by decide) k3) ?_;refine zcd (xfg 0 (dnx l p 3)) ?_;refine zcm (x1) ?_;refine zcd (xbf 8) ?_;refine zrM hb0 mz ?_
   (exact⟨[⟨1,0,0,0,(dnx l p 3)⟩,⟨23,0,0,0,8⟩],(dkx l (dkx l p)),⟨(all_cons (xcg ⟨by omega,by omega⟩ ⟨by omega,by omega⟩) (all_cons (xby ⟨by omega,by omega⟩) all_nil)),by simp⟩,(xa4 (xa4 k3)),by(first|rfl|simp only [go_sem]|(simp only [go_sem];rfl)),rfl,by simp only [go_sem]⟩)
  ·skip
   refine zst ?_;have d0:=dd p 3 (by decide);refine zcm (nx p 3 (by decide) k3) ?_;refine zcd (xfg 0 (dnx l p 3)) ?_;refine zcm (x1) ?_;refine zcd (xbf 9) ?_;refine zrM hb0 mz ?_
   (exact⟨[⟨1,0,0,0,(dnx l p 3)⟩,⟨23,0,0,0,9⟩],(dkx l (dkx l p)),⟨(all_cons (xcg ⟨by omega,by omega⟩ ⟨by omega,by omega⟩) (all_cons (xby ⟨by omega,by omega⟩) all_nil)),by simp⟩,(xa4 (xa4 k3)),by(first|rfl|simp only [go_sem]|(simp only [go_sem];rfl)),rfl,by simp only [go_sem]⟩)
 by_cases e15:z=15
 ·skip
  have x1:=nx (dkx l p) 2 (by decide) (xa4 k3);have c1:=dd (dkx l p) 2 (by decide);have o1:dnx l (dkx l p) 2=0∨dnx l (dkx l p) 2=1:=by omega
  generalize dnx l (dkx l p) 2=b1 at x1 o1;clear c1;rcases o1 with rfl|rfl
  ·skip
   refine zst ?_;have d0:=dd p 3 (by decide);refine zcm (nx p 3 (by decide) k3) ?_;refine zcd (xfg 0 (dnx l p 3)) ?_;refine zcm (x1) ?_;refine zcd (xbf 8) ?_;refine zrM hb0 mz ?_
   (exact⟨[⟨1,0,0,0,(dnx l p 3)⟩,⟨23,0,0,0,8⟩],(dkx l (dkx l p)),⟨(all_cons (xcg ⟨by omega,by omega⟩ ⟨by omega,by omega⟩) (all_cons (xby ⟨by omega,by omega⟩) all_nil)),by simp⟩,(xa4 (xa4 k3)),by(first|rfl|simp only [go_sem]|(simp only [go_sem];rfl)),rfl,by simp only [go_sem]⟩)
  ·skip
   refine zst ?_;have d0:=dd p 3 (by decide);refine zcm (nx p 3 (by decide) k3) ?_;refine zcd (xfg 0 (dnx l p 3)) ?_;refine zcm (x1) ?_;refine zcd (xbf 9) ?_;refine zrM hb0 mz ?_
   (exact⟨[⟨1,0,0,0,(dnx l p 3)⟩,⟨23,0,0,0,9⟩],(dkx l (dkx l p)),⟨(all_cons (xcg ⟨by omega,by omega⟩ ⟨by omega,by omega⟩) (all_cons (xby ⟨by omega,by omega⟩) all_nil)),by simp⟩,(xa4 (xa4 k3)),by(first|rfl|simp only [go_sem]|(simp only [go_sem];rfl)),rfl,by simp only [go_sem]⟩)
 by_cases e16:z=16
 ·skip
  refine zst ?_;have d0:=dd p most (by omega);refine zcm (nx p most (by omega) k3) ?_;refine zcd (xfg 0 (dnx l p most)) ?_;refine zcd (xhb 1 3) ?_;refine zcd (xbf 10) ?_;refine zrM hb0 mz ?_
  (exact⟨[⟨1,0,0,0,(dnx l p most)⟩,⟨2,1,3,0,0⟩,⟨23,0,0,0,10⟩],(dkx l p),⟨(all_cons (xcg ⟨by omega,by omega⟩ ⟨by omega,by omega⟩) (all_cons (xg4 ⟨by omega,by omega⟩ ⟨by omega,by omega⟩) (all_cons (xby ⟨by omega,by omega⟩) all_nil))),by simp⟩,(xa4 k3),by(first|rfl|simp only [go_sem]|(simp only [go_sem];rfl)),rfl,by simp only [go_sem]⟩)
 by_cases e17:z=17
 ·skip
  have x0:=nx p 2 (by decide) k3;have c0:=dd p 2 (by decide);have o0:dnx l p 2=0∨dnx l p 2=1:=by omega
  generalize dnx l p 2=b0 at x0 o0;clear c0;rcases o0 with rfl|rfl
  ·skip
   have x2:=nx (dkx l (dkx l p)) 2 (by decide) (xa4 (xa4 k3));have c2:=dd (dkx l (dkx l p)) 2 (by decide);have o2:dnx l (dkx l (dkx l p)) 2=0∨dnx l (dkx l (dkx l p)) 2=1:=by omega
   generalize dnx l (dkx l (dkx l p)) 2=b2 at x2 o2;clear c2;rcases o2 with rfl|rfl
   ·skip
    refine zst ?_;refine zcm (x0) ?_;have d1:=dd (dkx l p) most (by omega);refine zcm (nx (dkx l p) most (by omega) (xa4 k3)) ?_;refine zcd (xfg 0 (dnx l (dkx l p) most)) ?_;refine zcm (x2) ?_;refine zcd (xbf 12) ?_;refine zrM hb0 mz ?_
    (exact⟨[⟨1,0,0,0,(dnx l (dkx l p) most)⟩,⟨23,0,0,0,12⟩],(dkx l (dkx l (dkx l p))),⟨(all_cons (xcg ⟨by omega,by omega⟩ ⟨by omega,by omega⟩) (all_cons (xby ⟨by omega,by omega⟩) all_nil)),by simp⟩,(xa4 (xa4 (xa4 k3))),by(first|rfl|simp only [go_sem]|(simp only [go_sem];rfl)),rfl,by simp only [go_sem]⟩)
   ·skip
    refine zst ?_;refine zcm (x0) ?_;have d1:=dd (dkx l p) most (by omega);refine zcm (nx (dkx l p) most (by omega) (xa4 k3)) ?_;refine zcd (xfg 0 (dnx l (dkx l p) most)) ?_;refine zcm (x2) ?_;refine zcd (xbf 11) ?_;refine zrM hb0 mz ?_
    (exact⟨[⟨1,0,0,0,(dnx l (dkx l p) most)⟩,⟨23,0,0,0,11⟩],(dkx l (dkx l (dkx l p))),⟨(all_cons (xcg ⟨by omega,by omega⟩ ⟨by omega,by omega⟩) (all_cons (xby ⟨by omega,by omega⟩) all_nil)),by simp⟩,(xa4 (xa4 (xa4 k3))),by(first|rfl|simp only [go_sem]|(simp only [go_sem];rfl)),rfl,by simp only [go_sem]⟩)
  ·skip
   have x2:=nx (dkx l (dkx l p)) 2 (by decide) (xa4 (xa4 k3));have c2:=dd (dkx l (dkx l p)) 2 (by decide);have o2:dnx l (dkx l (dkx l p)) 2=0∨dnx l (dkx l (dkx l p)) 2=1:=by omega
   generalize dnx l (dkx l (dkx l p)) 2=b2 at x2 o2;clear c2;rcases o2 with rfl|rfl
   ·skip
    refine zst ?_;refine zcm (x0) ?_;have d1:=dd (dkx l p) 5 (by omega);refine zcm (nx (dkx l p) 5 (by omega) (xa4 k3)) ?_;refine zcd (xfg 0 (dnx l (dkx l p) 5)) ?_;refine zcm (x2) ?_;refine zcd (xbf 12) ?_;refine zrM hb0 mz ?_
    (exact⟨[⟨1,0,0,0,(dnx l (dkx l p) 5)⟩,⟨23,0,0,0,12⟩],(dkx l (dkx l (dkx l p))),⟨(all_cons (xcg ⟨by omega,by omega⟩ ⟨by omega,by omega⟩) (all_cons (xby ⟨by omega,by omega⟩) all_nil)),by simp⟩,(xa4 (xa4 (xa4 k3))),by(first|rfl|simp only [go_sem]|(simp only [go_sem];rfl)),rfl,by simp only [go_sem]⟩)
   ·skip
    refine zst ?_;refine zcm (x0) ?_;have d1:=dd (dkx l p) 5 (by omega);refine zcm (nx (dkx l p) 5 (by omega) (xa4 k3)) ?_;refine zcd (xfg 0 (dnx l (dkx l p) 5)) ?_;refine zcm (x2) ?_;refine zcd (xbf 11) ?_;refine zrM hb0 mz ?_
    (exact⟨[⟨1,0,0,0,(dnx l (dkx l p) 5)⟩,⟨23,0,0,0,11⟩],(dkx l (dkx l (dkx l p))),⟨(all_cons (xcg ⟨by omega,by omega⟩ ⟨by omega,by omega⟩) (all_cons (xby ⟨by omega,by omega⟩) all_nil)),by simp⟩,(xa4 (xa4 (xa4 k3))),by(first|rfl|simp only [go_sem]|(simp only [go_sem];rfl)),rfl,by simp only [go_sem]⟩)
 by_cases e18:z=18
 ·skip
  refine zst ?_;have d0:=dd p 4 (by decide);refine zcm (nx p 4 (by decide) k3) ?_;refine zcd (xfg 5 (1+(dnx l p 4))) ?_;refine zcd (xfg 4 1) ?_;refine zrM hb0 mz ?_
  (exact⟨[⟨1,5,0,0,1+(dnx l p 4)⟩,⟨1,4,0,0,1⟩,⟨4,5,5,4,0⟩,⟨20,5,0,0,at0+2⟩],(dkx l p),⟨(all_cons (xcg ⟨by omega,by omega⟩ ⟨by omega,by omega⟩) (all_cons (xcg ⟨by omega,by omega⟩ ⟨by omega,by omega⟩) (all_cons (xh3 (by decide) ⟨by omega,by omega⟩ ⟨by omega,by omega⟩ ⟨by omega,by omega⟩) (all_cons (yhg ⟨by omega,by omega⟩ ⟨by omega,by omega⟩) all_nil)))),by simp⟩,(xa4 k3),by(first|rfl|simp only [go_sem]|(simp only [go_sem];rfl)),rfl,by simp only [go_sem]⟩)
 have e19:z=19:=by omega
 refine zst ?_;refine xie (yjz l p k3 s.length most ⟨by omega,by omega⟩ ⟨by omega,by omega⟩) rfl (by simp only [go_sem];rfl) rfl (by first|rfl|(simp only [go_sem];done)) (by first|rfl|(simp only [go_sem];done)) (by first|rfl|(simp only [go_sem];done)) (by first|rfl|(simp only [go_sem];done)|(simp only [go_sem];rfl)) fun x obs d hR=>?_;obtain⟨i,k2,hi,hk2,rfl,rfl,rfl⟩:=hR;simp only [V.shift,V.shifts,List.map_nil,List.append_nil,List.set_cons_zero];refine zst ?_;refine zrM hb0 mz ?_
 (exact⟨[i],k2,⟨all_cons hi all_nil,by simp⟩,hk2,by(first|rfl|simp only [go_sem]|(simp only [go_sem];rfl)),rfl,by simp only [go_sem]⟩)
end Go.Proofs.YtbgpfigkcpmnfaaGreat
