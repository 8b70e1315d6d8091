import Derived.Test.YtbgpfigkcpmnfaaGreatA8
import Derived.Test.YtbgpfigkcpmnfaaGreatA41
import Derived.Test.YtbgpfigkcpmnfaaGreatA6
set_option linter.unusedSimpArgs false
set_option linter.unusedVariables false
set_option maxHeartbeats 64000000
set_option maxRecDepth 100000
namespace Go.Proofs.YtbgpfigkcpmnfaaGreat
open Go Go.RowKit Rdn Rdn.Dp
structure okData (s:List Int) (i:Nat) (D:List (List Int)):Prop where
 n:D.length=i
 le:∀j:Nat,j<i→(D[j]!.length:Int)≤s[j]!
 w:∀d∈D,∀v∈d,0≤v∧v≤65535
theorem xw6 (s:List Int):okData s 0 []:=⟨rfl,fun j hj=>absurd hj (by omega),fun d hd=>by cases hd⟩
theorem xt3 {s:List Int} {i:Nat} {D:List (List Int)} (h:okData s i D) {d:List Int} (h1:(d.length:Int)≤s[i]!) (h2:∀v∈d,0≤v∧v≤65535):okData s (i+1) (D++[d]):=by
 have hn:=h.n;refine⟨by rw [List.length_append,List.length_singleton,h.n],fun j hj=>?_,fun e he=>?_⟩
 ·by_cases e:j<i
  ·rw [getElem!_pos _ j (by rw [List.length_append,List.length_singleton];omega),List.getElem_append_left (by omega),←getElem!_pos]
   exact h.le j e
  ·obtain rfl:j=i:=by omega
   rw [getElem!_pos _ j (by rw [List.length_append,List.length_singleton];omega),List.getElem_append_right (by omega)];simpa [hn] using h1
 ·rcases List.mem_append.1 he with he|he
  ·exact h.w e he
  ·rw [List.mem_singleton] at he;subst he;exact h2
def preC (S:Int) (C:List PInstr) (n:Nat):Prop:=(∀i∈C,preI S i)∧C.length≤n
theorem xi9 {S:Int} {C D:List PInstr} {n m:Nat} (h:preC S C n) (k:∀i∈D,preI S i) (hm:C.length+D.length≤m):preC S (C++D) m:=⟨fun i hi=>by
 rcases List.mem_append.1 hi with hi|hi
 ·exact h.1 i hi
 ·exact k i hi,by rw [List.length_append];exact hm⟩
theorem yhf {S m:Int} (hm:0≤m∧m≤65535):preI S ⟨18,0,0,0,m⟩:=xch (u0:=false) (u1:=false) (u2:=false) (u3:=true) rfl (by decide) (by decide) (by decide) (by decide) hm (fun _=>rfl) (fun _=>rfl) (fun _=>rfl) (fun h=>by cases h) (fun h=>by cases h) (fun h=>by cases h)
theorem yhh {S:Int}:preI S ⟨24,0,0,0,0⟩:=xch (u0:=false) (u1:=false) (u2:=false) (u3:=false) rfl (by decide) (by decide) (by decide) (by decide) (by decide) (fun _=>rfl) (fun _=>rfl) (fun _=>rfl) (fun _=>rfl) (fun h=>by cases h) (fun h=>by cases h)
def fixI (N:Nat) (i:PInstr):PInstr:=if xbm i.op∧(N:Int)≤i.imm then {i with imm:=0} else i
theorem xjt {α:Type} [Inhabited α] {l:List α} {i:Nat} (h:i<l.length):l.set i l[i]! =l:=by
 rw [getElem!_pos l i h];exact List.set_getElem_self h
def fixN (N:Nat) (C:List PInstr) (k:Nat):List PInstr:=(C.take k).map (fixI N)++C.drop k
theorem xi5 (N:Nat) (C:List PInstr) (k:Nat):(fixN N C k).length=C.length:=by
 unfold fixN;rw [List.length_append,List.length_map,List.length_take,List.length_drop];omega
theorem xmh {N:Nat} {C:List PInstr} {k:Nat} (h:k<C.length):(fixN N C k)[k]! =C[k]!:=by
 rw [getElem!_pos _ k (by rw [xi5];exact h)];unfold fixN;rw [List.getElem_append_right (by rw [List.length_map,List.length_take];omega)];simp [Nat.min_eq_left (Nat.le_of_lt h),h]
theorem xhk {N:Nat} {C:List PInstr} {k:Nat} (h:k<C.length):fixN N C (k+1)=(fixN N C k).set k (fixI N C[k]!):=by
 unfold fixN;have hl:((C.take k).map (fixI N)).length=k:=by rw [List.length_map,List.length_take];omega
 rw [List.set_append_right _ _ (by omega),hl,Nat.sub_self,List.drop_eq_getElem_cons h,List.set_cons_zero,List.take_succ_eq_append_getElem h,List.map_append,List.append_assoc,getElem!_pos C k h];rfl
theorem xjb (N:Nat) (C:List PInstr):fixN N C C.length=C.map (fixI N):=by unfold fixN;simp
theorem yg8 {S:Int} {N:Nat} (hN:1≤N∧N≤64) (hS:S≤4) {i:PInstr} (h:preI S i):xp3 (fixI N i)∧(xbm (fixI N i).op→(fixI N i).imm<N)∧((fixI N i).op=15→(fixI N i).imm<S):=by
 obtain⟨o,a,b,c,⟨m0,m1,m2⟩,h15,h23⟩:=h;unfold fixI;by_cases e:xbm i.op∧(N:Int)≤i.imm
 ·rw [if_pos e]
  have hj:=e.1;unfold xbm at hj;exact⟨⟨o.1,o.2,a,b,c,⟨by show(0:Int)≤0;decide,by show(0:Int)≤65535;decide,fun _=>rfl⟩,fun _=>by show(0:Int)<64;decide,fun q=>by dsimp only at q;omega,fun q=>by dsimp only at q;omega⟩,fun _=>by show(0:Int)<N;omega,fun q=>by dsimp only at q;omega⟩
 ·rw [if_neg e]
  have hj:xbm i.op→i.imm<N:=fun q=>Int.not_le.1 fun r=>e ⟨q,r⟩;exact⟨⟨o.1,o.2,a,b,c,⟨m0,m1,m2⟩,fun q=>by have:=hj q;omega,fun q=>by have:=h15 q;omega,h23⟩,hj,h15⟩
theorem xmy {s:List Int} (hs:okSz s) {D:List (List Int)} (hD:okData s s.length D) {C:List PInstr} (hC:preC s.length C 64) (h1:1≤C.length):okProg ⟨C.map (fixI C.length),s,D⟩:=by
 refine⟨hs,hD.n,hD.le,by show 1≤(C.map _).length;rw [List.length_map];exact h1,by show(C.map _).length≤64;rw [List.length_map];exact hC.2,fun i hi=>?_⟩;obtain⟨j,hj,rfl⟩:=List.mem_map.1 hi;have h3:=hs.2.2;have:=yg8 (N:=C.length) ⟨h1,hC.2⟩ (by omega) (hC.1 j hj);show _∧(_→_<((C.map (fixI C.length)).length:Int))∧_;rw [List.length_map];exact this
structure Hc (p:Prop):Prop where
 h:p
theorem yjm (l:List Int) (k:Nat) (hk:k≤l.length):FncM Tryz.prog 15 84 (xcu l k) [] (fun x obs c=>∃(p:PProg) (k':Nat),(okProg p∧∀d∈p.data,∀v∈d,0≤v∧v≤65535)∧k'≤l.length∧x=xbn false p∧obs=[]∧c=xcu l k'):=by
 refine zcf Tryz.prog 15 fun mz=>?_;refine FncM.low ?_;refine zgM mz fun W S b0 hb0=>?_;refine xie (yl6 l k hk) rfl (by simp only [go_sem];rfl) rfl (by first|rfl|(simp only [go_sem];done)) (by first|rfl|(simp only [go_sem];done)) (by first|rfl|(simp only [go_sem];done)) (by first|rfl|(simp only [go_sem];done)|(simp only [go_sem];rfl)) fun x obs d hR=>?_;obtain⟨s,q0,hs,hq0,rfl,rfl,rfl⟩:=hR;simp only [V.shift,V.shifts,xht,List.map_nil,List.append_nil,List.set_cons_zero];refine zst ?_;refine xb8 2 2 40 1 rfl rfl (by decide) rfl ?_;refine zls ?_;refine xb8 2 0 124 5 rfl rfl (by decide) rfl ?_;simp only [List.set_cons_zero,List.set_cons_succ,List.cons_append,List.nil_append,List.length_cons,List.length_nil,Nat.zero_add,Nat.reduceAdd];have hs4:=hs.2.2;refine zlk [0,2,3,13,14] (fun p:{p:Nat×List (List Int)×Nat // p.1≤s.length∧okData s p.1 p.2.1∧p.2.2≤l.length}=>[(15,.int .i64 p.1.1)]) (fun p=>[⟨.box true 84,true,0,xcu l p.1.2.2⟩,⟨.box false 29,true,0,.agg [.nilS,.nilS,.nilS]⟩,⟨.box false 29,true,0,.agg [.own 4 0,.sl false 1 (i64s s),.own 3 p.1.1]⟩,⟨.row 40,true,p.1.1,.arr 1 (p.1.2.1.map (slV' false 1 (V.int .u16)))⟩,⟨.row 124,true,0,.arr 5 []⟩]) (fun p=>s.length-p.1.1) (⟨(0,[],q0),by omega,xw6 s,hq0⟩) 5 ?_;intro J hJ
 rintro⟨⟨i,D,q⟩,hi,hD,hq⟩
 dsimp only at hi hD hq;by_cases hlt:i<s.length
 ·have hsi:=hs.1 _ (xam (l:=s) (k:=i) hlt)
  have fw:=xh7 l q s[i]! hq (by omega) (by omega);have hwl:=xe5 (l:=l) (k:=q) (n:=s[i]!) (by omega);have hwo:=yeh l q s[i]!;have hwq:=xh9 hq s[i]!;generalize dws l q s[i]! =Z at fw hwl hwo hwq;obtain⟨ws,q2⟩:=Z;dsimp only at fw hwl hwo hwq;have hDn:=hD.n;have hsn:(D++[ws]).map (slV' false 1 (V.int .u16))=D.map (slV' false 1 (V.int .u16))++[.sl false 1 (u16s ws)]:=by simp [slV']
  refine zst ?_;refine zcm (fw) ?_;exact zn5 (hJ _ (⟨(i+1,D++[ws],q2),hlt,xt3 hD (by omega) hwo,hwq⟩) (by first|omega|(dsimp only;omega)|(simp;omega))) hsn
 obtain rfl:i=s.length:=by omega
 refine zst ?_;have z0:=xc0 (l:=l) (k:=q) (n:=12) (by decide);have z1:=xc1 (l:=l) (k:=q) (n:=12) (by decide);refine zcm (xav l q 12 hq (by decide)) ?_;obtain⟨K,hK⟩:∃K:Nat,1+dnx l q 12=K:=⟨(1+dnx l q 12).toNat,by omega⟩;rw [hK];have hK12:K≤12:=by omega
 have hq1:=xa4 hq;generalize dkx l q=q at hq1;clear hK z0 z1;refine zlk [0,2,3] (fun p:{p:Nat×List PInstr×Nat×Nat // p.1≤K∧preC s.length p.2.1 62∧p.2.2.2≤l.length}=>[(6,.int .i64 (K-p.1.1))]) (fun p=>[⟨.box true 84,true,0,xcu l p.1.2.2.2⟩,⟨.box false 29,true,0,.agg [.nilS,.nilS,.nilS]⟩,⟨.box false 29,true,0,.agg [.own 4 p.1.2.2.1,.sl false 1 (i64s s),.own 3 s.length]⟩,⟨.row 40,true,s.length,.arr 1 (D.map (slV' false 1 (V.int .u16)))⟩,⟨.row 124,true,p.1.2.2.1,.arr 5 (p.1.2.1.map xcj)⟩]) (fun p=>K-p.1.1) (⟨(0,[],0,q),by omega,⟨(fun i hi=>by cases hi),by simp⟩,hq1⟩) 5 ?_;intro J hJ
 rintro⟨⟨j,C,g,q⟩,hj,hC,hq⟩
 dsimp only at hj hC hq;by_cases hlt:j<K
 ·have hcl:=hC.2
  have hkj:(K:Int)-((j+1:Nat):Int)=K-j-1:=by omega
  refine zst ?_;refine xie (ykr l q hq s hs (C.length+1) C.length ⟨by omega,by omega⟩ ⟨by omega,by omega⟩) rfl (by simp only [go_sem];rfl) rfl (by first|rfl|(simp only [go_sem];done)) (by first|rfl|(simp only [go_sem];done)) (by first|rfl|(simp only [go_sem];done)) (by first|rfl|(simp only [go_sem];done)|(simp only [go_sem];rfl)) fun x obs d hR=>?_;obtain⟨out,q2,⟨ho,hol⟩,hq2,rfl,rfl,rfl⟩:=hR;simp only [V.shift,V.shifts,xht,List.map_nil,List.append_nil,List.set_cons_zero];by_cases hle:C.length+out.length≤62
  ·refine zst ?_
   refine xbw 5 (hJ _ (⟨(j+1,C++out,g+1,q2),hlt,xi9 hC ho hle,hq2⟩) (by first|omega|(dsimp only;omega)|(simp;omega))) rfl (by simp) ?_ (by first|rfl|(simp only [go_sem];done)) (by first|rfl|(simp only [go_sem];done)|(simp only [List.map_append,hkj];(try simp only [go_sem]);first|done|rfl)) ?_
   ·(first|rfl|(simp only [go_sem];done)|(simp only [go_sem];simp only [List.map_append,hkj];done)|(simp only [List.map_append,hkj];done)|(simp only [go_sem];simp [List.map_append,hkj];done)|(simp [List.map_append,hkj];done))
   ·(simp only [go_sem];(repeat' (refine And.intro ?_ ?_))<;>first|exact trivial|with_reducible rfl|(simp only [List.map_append,hkj];done)|(simp only [List.map_append,hkj];with_reducible rfl)|(simp [List.map_append,hkj];done)|(simp [List.map_append,hkj];omega)|(simp only [List.map_append,hkj];rfl)|skip)
  ·refine zst ?_
   exact zn5 (hJ _ (⟨(j+1,C,g,q2),hlt,hC,hq2⟩) (by first|omega|(dsimp only;omega)|(simp;omega))) hkj
 obtain rfl:j=K:=by omega
 have hcl:=hC.2;have z0:=xc0 (l:=l) (k:=q) (n:=4) (by decide);have z1:=xc1 (l:=l) (k:=q) (n:=4) (by decide);have f4:=xav l q 4 hq (by decide);have hq1:=xa4 hq;generalize dkx l q=q at hq1 f4;generalize dnx l _ 4=z at f4 z0 z1;refine zst ?_;refine zcm (f4) ?_;by_cases e0:z=0
 ·have m0:=xc0 (l:=l) (k:=q) (n:=C.length+1) (by omega)
  have m1:=xc1 (l:=l) (k:=q) (n:=C.length+1) (by omega);have fj:=xav l q (C.length+1) hq1 (by omega);have hq2:=xa4 hq1;generalize dnx l q (C.length+1)=m at fj m0 m1;generalize dkx l q=q2 at fj hq2;refine zst ?_;refine zcm (fj) ?_;have f9:=xav l q2 9 hq2 (by decide);have v0:=xc0 (l:=l) (k:=q2) (n:=9) (by decide);have v1:=xc1 (l:=l) (k:=q2) (n:=9) (by decide);have hq9:=xa4 hq2;generalize dnx l q2 9=v at f9 v0 v1;generalize dkx l q2=q9 at f9 hq9;have hE:preC s.length ((C++[⟨18,0,0,0,m⟩])++[⟨1,0,0,0,v⟩,⟨23,0,0,0,0⟩]) 65:=xi9 (n:=63) (xi9 (m:=63) hC (all_cons (yhf ⟨m0,by omega⟩) all_nil) (by simp;omega)) (all_cons (xcg ⟨by omega,by omega⟩ ⟨by omega,by omega⟩) (all_cons (xby ⟨by omega,by omega⟩) all_nil)) (by simp;omega);refine zcm (f9) ?_;refine zcd (xfg 0 v) ?_
  (first|refine xaj (xbf 0) ?_|refine xaa (xbf 0) ?_);refine zev ?_
  refine xbc (by kernel_rfl) ?_;by_cases hc:C.length=62
  ·have hch:Hc (C.length=62):=⟨hc⟩
   clear hc;refine zst ?_;have hc:=hch.h;refine xas rfl ?_ ?_
   ·simp<;>omega
   refine xcv (xb1 (fu:=[(),()]) ?_);refine zev ?_;refine xnl (xfq (r:=4) (g:=g+2) (kk:=.row 124) rfl (.inl rfl) rfl trivial trivial (by simp only [go_sem];done) (by simp only [go_sem]<;>omega) (by simp only [go_sem]<;>omega)) rfl ?_;simp only [go_sem];refine xnt 97 4 rfl rfl (by simp only [go_sem]<;>omega) ?_;refine zls ?_;have hF:preC s.length (((C++[⟨18,0,0,0,m⟩])++[⟨1,0,0,0,v⟩,⟨23,0,0,0,0⟩]:List PInstr).take 64) 64:=⟨fun i hi=>hE.1 i (List.mem_of_mem_take hi),by rw [List.length_take];omega⟩;have hF1:1≤(((C++[⟨18,0,0,0,m⟩])++[⟨1,0,0,0,v⟩,⟨23,0,0,0,0⟩]:List PInstr).take 64).length:=by simp [hc]
   have hFl:(((C++[⟨18,0,0,0,m⟩])++[⟨1,0,0,0,v⟩,⟨23,0,0,0,0⟩]:List PInstr).take 64).length=64:=by simp [hc]
   refine zst ?_;refine xef 4 ((((C++[⟨18,0,0,0,m⟩])++[⟨1,0,0,0,v⟩,⟨23,0,0,0,0⟩]:List PInstr).take 64).map xcj) rfl (by simp only [List.map_append,List.map_cons,List.map_nil,List.append_assoc,List.cons_append,List.nil_append,List.map_take];exact SubVs.refl _) (xa1 _ _) (xaz (f:=xcj) (s:=5) (fun _=>rfl) _) ?_;refine zls ?_;generalize (((C++[⟨18,0,0,0,m⟩])++[⟨1,0,0,0,v⟩,⟨23,0,0,0,0⟩]:List PInstr).take 64)=F at hF hF1 hFl⊢;have fix0:fixN F.length F 0=F:=by simp [fixN]
   refine xay [2,3,101] (fun p:{p:Nat // p≤F.length}=>[(102,.int .i64 p.1)]) (fun p=>[⟨.box true 84,true,0,xcu l q9⟩,⟨.box false 29,true,0,.agg [.nilS,.nilS,.nilS]⟩,⟨.box false 29,true,0,.agg [.own 4 (g+3),.sl false 1 (i64s s),.own 3 s.length]⟩,⟨.row 40,true,s.length,.arr 1 (D.map (slV' false 1 (V.int .u16)))⟩,⟨.row 124,true,(g+3),.arr 5 ((fixN F.length F p.1).map xcj)⟩]) (fun p=>F.length-p.1) (⟨0,by omega⟩) 5 (by simp only [go_sem];rfl) ?_ (by first|rfl|(simp only [go_sem];done)|(simp only [go_sem];simp [fix0];done)) (by simp) (by first|rfl|(simp only [go_sem];done)|(simp only [fix0];(try simp only [go_sem]);first|done|rfl)) (by first|rfl|(simp only [go_sem];done)) (by first|rfl|(simp only [go_sem];done)|(simp only [fix0];(try simp only [go_sem]);first|done|rfl)) ?_
   ·(simp only [go_sem];(try simp [fix0]);done)
   intro J hJ
   rintro⟨i,hi⟩
   have hfl:=xi5 F.length F i;by_cases hlt:i<F.length
   ·have hat:=xmh (N:=F.length) hlt
    have hsu:=xhk (N:=F.length) hlt;have fj:=xjg F[i]!.op;by_cases hj:xbm F[i]!.op∧(F.length:Int)≤F[i]!.imm
    ·rw [decT hj.1] at fj
     have hj2:=hj.2;rw [fixI,if_pos hj] at hsu;generalize fixN F.length F i=G at hfl hat hsu⊢;refine zsx hat ?_
     (first|refine xaj (fj) ?_|refine xaa (fj) ?_);refine zev ?_
     refine zsx hat ?_;refine xbw 5 (hJ _ (⟨i+1,hlt⟩) (by first|omega|(dsimp only;omega)|(simp;omega))) rfl (by simp) ?_ (by first|rfl|(simp only [go_sem];done)) (by first|rfl|(simp only [go_sem];done)|(simp only [hsu,List.map_set];(try simp only [go_sem]);first|done|rfl)) ?_
     ·(first|rfl|(simp only [go_sem];done)|(simp only [go_sem];simp only [hsu,List.map_set];done)|(simp only [hsu,List.map_set];done)|(simp only [go_sem];simp [hsu,List.map_set];done)|(simp [hsu,List.map_set];done))
     ·(simp only [go_sem];(repeat' (refine And.intro ?_ ?_))<;>first|exact trivial|with_reducible rfl|(simp only [hsu,List.map_set];done)|(simp only [hsu,List.map_set];with_reducible rfl)|(simp [hsu,List.map_set];done)|(simp [hsu,List.map_set];omega)|(simp only [hsu,List.map_set];rfl)|skip)
    ·have hsu:fixN F.length F (i+1)=fixN F.length F i:=by rw [hsu,fixI,if_neg hj,←hat,xjt (by omega)]
     generalize fixN F.length F i=G at hfl hat hsu⊢;by_cases hj1:xbm F[i]!.op
     ·rw [decT hj1] at fj
      have hj2:¬(F.length:Int)≤F[i]!.imm:=fun e=>hj ⟨hj1,e⟩;refine zsx hat ?_
      (first|refine xaj (fj) ?_|refine xaa (fj) ?_);refine zev ?_
      refine zsx hat ?_;exact zn5 (hJ _ (⟨i+1,hlt⟩) (by first|omega|(dsimp only;omega)|(simp;omega))) hsu
     ·rw [decF hj1] at fj
      refine zsx hat ?_
      (first|refine xaj (fj) ?_|refine xaa (fj) ?_);refine zev ?_
      refine zsx hat ?_;exact zn5 (hJ _ (⟨i+1,hlt⟩) (by first|omega|(dsimp only;omega)|(simp;omega))) hsu
   obtain rfl:i=F.length:=by omega
   rw [xjb];refine zst ?_;refine zrM hb0 mz ?_
   (exact⟨⟨F.map (fixI F.length),s,D⟩,q9,⟨xmy hs hD hF hF1,hD.w⟩,hq9,by(first|rfl|simp only [go_sem]|(simp only [go_sem];rfl)),rfl,by simp only [go_sem]⟩)
  have hF:preC s.length ((C++[⟨18,0,0,0,m⟩])++[⟨1,0,0,0,v⟩,⟨23,0,0,0,0⟩]:List PInstr) 64:=⟨hE.1,by simp;omega⟩;have hF1:1≤((C++[⟨18,0,0,0,m⟩])++[⟨1,0,0,0,v⟩,⟨23,0,0,0,0⟩]:List PInstr).length:=by simp
  have hFl:((C++[⟨18,0,0,0,m⟩])++[⟨1,0,0,0,v⟩,⟨23,0,0,0,0⟩]:List PInstr).length=C.length+3:=by simp
  refine zst ?_;refine xef 4 (((C++[⟨18,0,0,0,m⟩])++[⟨1,0,0,0,v⟩,⟨23,0,0,0,0⟩]:List PInstr).map xcj) rfl (by simp only [List.map_append,List.map_cons,List.map_nil,List.append_assoc,List.cons_append,List.nil_append,List.map_take];exact SubVs.refl _) (xa1 _ _) (xaz (f:=xcj) (s:=5) (fun _=>rfl) _) ?_;refine zls ?_;generalize ((C++[⟨18,0,0,0,m⟩])++[⟨1,0,0,0,v⟩,⟨23,0,0,0,0⟩]:List PInstr)=F at hF hF1 hFl⊢;have fix0:fixN F.length F 0=F:=by simp [fixN]
  refine xay [2,3,101] (fun p:{p:Nat // p≤F.length}=>[(102,.int .i64 p.1)]) (fun p=>[⟨.box true 84,true,0,xcu l q9⟩,⟨.box false 29,true,0,.agg [.nilS,.nilS,.nilS]⟩,⟨.box false 29,true,0,.agg [.own 4 (g+2),.sl false 1 (i64s s),.own 3 s.length]⟩,⟨.row 40,true,s.length,.arr 1 (D.map (slV' false 1 (V.int .u16)))⟩,⟨.row 124,true,(g+2),.arr 5 ((fixN F.length F p.1).map xcj)⟩]) (fun p=>F.length-p.1) (⟨0,by omega⟩) 5 (by simp only [go_sem];rfl) ?_ (by first|rfl|(simp only [go_sem];done)|(simp only [go_sem];simp [fix0];done)) (by simp) (by first|rfl|(simp only [go_sem];done)|(simp only [fix0];(try simp only [go_sem]);first|done|rfl)) (by first|rfl|(simp only [go_sem];done)) (by first|rfl|(simp only [go_sem];done)|(simp only [fix0];(try simp only [go_sem]);first|done|rfl)) ?_
  ·(simp only [go_sem];(try simp [fix0]);done)
  intro J hJ
  rintro⟨i,hi⟩
  have hfl:=xi5 F.length F i;by_cases hlt:i<F.length
  ·have hat:=xmh (N:=F.length) hlt
   have hsu:=xhk (N:=F.length) hlt;have fj:=xjg F[i]!.op;by_cases hj:xbm F[i]!.op∧(F.length:Int)≤F[i]!.imm
   ·rw [decT hj.1] at fj
    have hj2:=hj.2;rw [fixI,if_pos hj] at hsu;generalize fixN F.length F i=G at hfl hat hsu⊢;refine zsx hat ?_
    (first|refine xaj (fj) ?_|refine xaa (fj) ?_);refine zev ?_
    refine zsx hat ?_;refine xbw 5 (hJ _ (⟨i+1,hlt⟩) (by first|omega|(dsimp only;omega)|(simp;omega))) rfl (by simp) ?_ (by first|rfl|(simp only [go_sem];done)) (by first|rfl|(simp only [go_sem];done)|(simp only [hsu,List.map_set];(try simp only [go_sem]);first|done|rfl)) ?_
    ·(first|rfl|(simp only [go_sem];done)|(simp only [go_sem];simp only [hsu,List.map_set];done)|(simp only [hsu,List.map_set];done)|(simp only [go_sem];simp [hsu,List.map_set];done)|(simp [hsu,List.map_set];done))
    ·(simp only [go_sem];(repeat' (refine And.intro ?_ ?_))<;>first|exact trivial|with_reducible rfl|(simp only [hsu,List.map_set];done)|(simp only [hsu,List.map_set];with_reducible rfl)|(simp [hsu,List.map_set];done)|(simp [hsu,List.map_set];omega)|(simp only [hsu,List.map_set];rfl)|skip)
   ·have hsu:fixN F.length F (i+1)=fixN F.length F i:=by rw [hsu,fixI,if_neg hj,←hat,xjt (by omega)]
    generalize fixN F.length F i=G at hfl hat hsu⊢;by_cases hj1:xbm F[i]!.op
    ·rw [decT hj1] at fj
     have hj2:¬(F.length:Int)≤F[i]!.imm:=fun e=>hj ⟨hj1,e⟩;refine zsx hat ?_
     (first|refine xaj (fj) ?_|refine xaa (fj) ?_);refine zev ?_
     refine zsx hat ?_;exact zn5 (hJ _ (⟨i+1,hlt⟩) (by first|omega|(dsimp only;omega)|(simp;omega))) hsu
    ·rw [decF hj1] at fj
     refine zsx hat ?_
     (first|refine xaj (fj) ?_|refine xaa (fj) ?_);refine zev ?_
     refine zsx hat ?_;exact zn5 (hJ _ (⟨i+1,hlt⟩) (by first|omega|(dsimp only;omega)|(simp;omega))) hsu
  obtain rfl:i=F.length:=by omega
  rw [xjb];refine zst ?_;refine zrM hb0 mz ?_
  (exact⟨⟨F.map (fixI F.length),s,D⟩,q9,⟨xmy hs hD hF hF1,hD.w⟩,hq9,by(first|rfl|simp only [go_sem]|(simp only [go_sem];rfl)),rfl,by simp only [go_sem]⟩)
 by_cases e1:z=1
 ·refine zst ?_
  have f9:=xav l q 9 hq1 (by decide);have v0:=xc0 (l:=l) (k:=q) (n:=9) (by decide);have v1:=xc1 (l:=l) (k:=q) (n:=9) (by decide);have hq9:=xa4 hq1;generalize dnx l q 9=v at f9 v0 v1;generalize dkx l q=q9 at f9 hq9;have hE:preC s.length ((C++[⟨24,0,0,0,0⟩])++[⟨1,0,0,0,v⟩,⟨23,0,0,0,0⟩]) 65:=xi9 (n:=63) (xi9 (m:=63) hC (all_cons yhh all_nil) (by simp;omega)) (all_cons (xcg ⟨by omega,by omega⟩ ⟨by omega,by omega⟩) (all_cons (xby ⟨by omega,by omega⟩) all_nil)) (by simp;omega);refine zcm (f9) ?_;refine zcd (xfg 0 v) ?_
  (first|refine xaj (xbf 0) ?_|refine xaa (xbf 0) ?_);refine zev ?_
  refine xbc (by kernel_rfl) ?_;by_cases hc:C.length=62
  ·have hch:Hc (C.length=62):=⟨hc⟩
   clear hc;refine zst ?_;have hc:=hch.h;refine xas rfl ?_ ?_
   ·simp<;>omega
   refine xcv (xb1 (fu:=[(),()]) ?_);refine zev ?_;refine xnl (xfq (r:=4) (g:=g+2) (kk:=.row 124) rfl (.inl rfl) rfl trivial trivial (by simp only [go_sem];done) (by simp only [go_sem]<;>omega) (by simp only [go_sem]<;>omega)) rfl ?_;simp only [go_sem];refine xnt 97 4 rfl rfl (by simp only [go_sem]<;>omega) ?_;refine zls ?_;have hF:preC s.length (((C++[⟨24,0,0,0,0⟩])++[⟨1,0,0,0,v⟩,⟨23,0,0,0,0⟩]:List PInstr).take 64) 64:=⟨fun i hi=>hE.1 i (List.mem_of_mem_take hi),by rw [List.length_take];omega⟩;have hF1:1≤(((C++[⟨24,0,0,0,0⟩])++[⟨1,0,0,0,v⟩,⟨23,0,0,0,0⟩]:List PInstr).take 64).length:=by simp [hc]
   have hFl:(((C++[⟨24,0,0,0,0⟩])++[⟨1,0,0,0,v⟩,⟨23,0,0,0,0⟩]:List PInstr).take 64).length=64:=by simp [hc]
   refine zst ?_;refine xef 4 ((((C++[⟨24,0,0,0,0⟩])++[⟨1,0,0,0,v⟩,⟨23,0,0,0,0⟩]:List PInstr).take 64).map xcj) rfl (by simp only [List.map_append,List.map_cons,List.map_nil,List.append_assoc,List.cons_append,List.nil_append,List.map_take];exact SubVs.refl _) (xa1 _ _) (xaz (f:=xcj) (s:=5) (fun _=>rfl) _) ?_;refine zls ?_;generalize (((C++[⟨24,0,0,0,0⟩])++[⟨1,0,0,0,v⟩,⟨23,0,0,0,0⟩]:List PInstr).take 64)=F at hF hF1 hFl⊢;have fix0:fixN F.length F 0=F:=by simp [fixN]
   refine xay [2,3,101] (fun p:{p:Nat // p≤F.length}=>[(102,.int .i64 p.1)]) (fun p=>[⟨.box true 84,true,0,xcu l q9⟩,⟨.box false 29,true,0,.agg [.nilS,.nilS,.nilS]⟩,⟨.box false 29,true,0,.agg [.own 4 (g+3),.sl false 1 (i64s s),.own 3 s.length]⟩,⟨.row 40,true,s.length,.arr 1 (D.map (slV' false 1 (V.int .u16)))⟩,⟨.row 124,true,(g+3),.arr 5 ((fixN F.length F p.1).map xcj)⟩]) (fun p=>F.length-p.1) (⟨0,by omega⟩) 5 (by simp only [go_sem];rfl) ?_ (by first|rfl|(simp only [go_sem];done)|(simp only [go_sem];simp [fix0];done)) (by simp) (by first|rfl|(simp only [go_sem];done)|(simp only [fix0];(try simp only [go_sem]);first|done|rfl)) (by first|rfl|(simp only [go_sem];done)) (by first|rfl|(simp only [go_sem];done)|(simp only [fix0];(try simp only [go_sem]);first|done|rfl)) ?_
   ·(simp only [go_sem];(try simp [fix0]);done)
   intro J hJ
   rintro⟨i,hi⟩
   have hfl:=xi5 F.length F i;by_cases hlt:i<F.length
   ·have hat:=xmh (N:=F.length) hlt
    have hsu:=xhk (N:=F.length) hlt;have fj:=xjg F[i]!.op;by_cases hj:xbm F[i]!.op∧(F.length:Int)≤F[i]!.imm
    ·rw [decT hj.1] at fj
     have hj2:=hj.2;rw [fixI,if_pos hj] at hsu;generalize fixN F.length F i=G at hfl hat hsu⊢;refine zsx hat ?_
     (first|refine xaj (fj) ?_|refine xaa (fj) ?_);refine zev ?_
     refine zsx hat ?_;refine xbw 5 (hJ _ (⟨i+1,hlt⟩) (by first|omega|(dsimp only;omega)|(simp;omega))) rfl (by simp) ?_ (by first|rfl|(simp only [go_sem];done)) (by first|rfl|(simp only [go_sem];done)|(simp only [hsu,List.map_set];(try simp only [go_sem]);first|done|rfl)) ?_
     ·(first|rfl|(simp only [go_sem];done)|(simp only [go_sem];simp only [hsu,List.map_set];done)|(simp only [hsu,List.map_set];done)|(simp only [go_sem];simp [hsu,List.map_set];done)|(simp [hsu,List.map_set];done))
     ·(simp only [go_sem];(repeat' (refine And.intro ?_ ?_))<;>first|exact trivial|with_reducible rfl|(simp only [hsu,List.map_set];done)|(simp only [hsu,List.map_set];with_reducible rfl)|(simp [hsu,List.map_set];done)|(simp [hsu,List.map_set];omega)|(simp only [hsu,List.map_set];rfl)|skip)
    ·have hsu:fixN F.length F (i+1)=fixN F.length F i:=by rw [hsu,fixI,if_neg hj,←hat,xjt (by omega)]
     generalize fixN F.length F i=G at hfl hat hsu⊢;by_cases hj1:xbm F[i]!.op
     ·rw [decT hj1] at fj
      have hj2:¬(F.length:Int)≤F[i]!.imm:=fun e=>hj ⟨hj1,e⟩;refine zsx hat ?_
      (first|refine xaj (fj) ?_|refine xaa (fj) ?_);refine zev ?_
      refine zsx hat ?_;exact zn5 (hJ _ (⟨i+1,hlt⟩) (by first|omega|(dsimp only;omega)|(simp;omega))) hsu
     ·rw [decF hj1] at fj
      refine zsx hat ?_
      (first|refine xaj (fj) ?_|refine xaa (fj) ?_);refine zev ?_
      refine zsx hat ?_;exact zn5 (hJ _ (⟨i+1,hlt⟩) (by first|omega|(dsimp only;omega)|(simp;omega))) hsu
   obtain rfl:i=F.length:=by omega
   rw [xjb];refine zst ?_;refine zrM hb0 mz ?_
   (exact⟨⟨F.map (fixI F.length),s,D⟩,q9,⟨xmy hs hD hF hF1,hD.w⟩,hq9,by(first|rfl|simp only [go_sem]|(simp only [go_sem];rfl)),rfl,by simp only [go_sem]⟩)
  have hF:preC s.length ((C++[⟨24,0,0,0,0⟩])++[⟨1,0,0,0,v⟩,⟨23,0,0,0,0⟩]:List PInstr) 64:=⟨hE.1,by simp;omega⟩;have hF1:1≤((C++[⟨24,0,0,0,0⟩])++[⟨1,0,0,0,v⟩,⟨23,0,0,0,0⟩]:List PInstr).length:=by simp
  have hFl:((C++[⟨24,0,0,0,0⟩])++[⟨1,0,0,0,v⟩,⟨23,0,0,0,0⟩]:List PInstr).length=C.length+3:=by simp
  refine zst ?_;refine xef 4 (((C++[⟨24,0,0,0,0⟩])++[⟨1,0,0,0,v⟩,⟨23,0,0,0,0⟩]:List PInstr).map xcj) rfl (by simp only [List.map_append,List.map_cons,List.map_nil,List.append_assoc,List.cons_append,List.nil_append,List.map_take];exact SubVs.refl _) (xa1 _ _) (xaz (f:=xcj) (s:=5) (fun _=>rfl) _) ?_;refine zls ?_;generalize ((C++[⟨24,0,0,0,0⟩])++[⟨1,0,0,0,v⟩,⟨23,0,0,0,0⟩]:List PInstr)=F at hF hF1 hFl⊢;have fix0:fixN F.length F 0=F:=by simp [fixN]
  refine xay [2,3,101] (fun p:{p:Nat // p≤F.length}=>[(102,.int .i64 p.1)]) (fun p=>[⟨.box true 84,true,0,xcu l q9⟩,⟨.box false 29,true,0,.agg [.nilS,.nilS,.nilS]⟩,⟨.box false 29,true,0,.agg [.own 4 (g+2),.sl false 1 (i64s s),.own 3 s.length]⟩,⟨.row 40,true,s.length,.arr 1 (D.map (slV' false 1 (V.int .u16)))⟩,⟨.row 124,true,(g+2),.arr 5 ((fixN F.length F p.1).map xcj)⟩]) (fun p=>F.length-p.1) (⟨0,by omega⟩) 5 (by simp only [go_sem];rfl) ?_ (by first|rfl|(simp only [go_sem];done)|(simp only [go_sem];simp [fix0];done)) (by simp) (by first|rfl|(simp only [go_sem];done)|(simp only [fix0];(try simp only [go_sem]);first|done|rfl)) (by first|rfl|(simp only [go_sem];done)) (by first|rfl|(simp only [go_sem];done)|(simp only [fix0];(try simp only [go_sem]);first|done|rfl)) ?_
  ·(simp only [go_sem];(try simp [fix0]);done)
  intro J hJ
  rintro⟨i,hi⟩
  have hfl:=xi5 F.length F i;by_cases hlt:i<F.length
  ·have hat:=xmh (N:=F.length) hlt
   have hsu:=xhk (N:=F.length) hlt;have fj:=xjg F[i]!.op;by_cases hj:xbm F[i]!.op∧(F.length:Int)≤F[i]!.imm
   ·rw [decT hj.1] at fj
    have hj2:=hj.2;rw [fixI,if_pos hj] at hsu;generalize fixN F.length F i=G at hfl hat hsu⊢;refine zsx hat ?_
    (first|refine xaj (fj) ?_|refine xaa (fj) ?_);refine zev ?_
    refine zsx hat ?_;refine xbw 5 (hJ _ (⟨i+1,hlt⟩) (by first|omega|(dsimp only;omega)|(simp;omega))) rfl (by simp) ?_ (by first|rfl|(simp only [go_sem];done)) (by first|rfl|(simp only [go_sem];done)|(simp only [hsu,List.map_set];(try simp only [go_sem]);first|done|rfl)) ?_
    ·(first|rfl|(simp only [go_sem];done)|(simp only [go_sem];simp only [hsu,List.map_set];done)|(simp only [hsu,List.map_set];done)|(simp only [go_sem];simp [hsu,List.map_set];done)|(simp [hsu,List.map_set];done))
    ·(simp only [go_sem];(repeat' (refine And.intro ?_ ?_))<;>first|exact trivial|with_reducible rfl|(simp only [hsu,List.map_set];done)|(simp only [hsu,List.map_set];with_reducible rfl)|(simp [hsu,List.map_set];done)|(simp [hsu,List.map_set];omega)|(simp only [hsu,List.map_set];rfl)|skip)
   ·have hsu:fixN F.length F (i+1)=fixN F.length F i:=by rw [hsu,fixI,if_neg hj,←hat,xjt (by omega)]
    generalize fixN F.length F i=G at hfl hat hsu⊢;by_cases hj1:xbm F[i]!.op
    ·rw [decT hj1] at fj
     have hj2:¬(F.length:Int)≤F[i]!.imm:=fun e=>hj ⟨hj1,e⟩;refine zsx hat ?_
     (first|refine xaj (fj) ?_|refine xaa (fj) ?_);refine zev ?_
     refine zsx hat ?_;exact zn5 (hJ _ (⟨i+1,hlt⟩) (by first|omega|(dsimp only;omega)|(simp;omega))) hsu
    ·rw [decF hj1] at fj
     refine zsx hat ?_
     (first|refine xaj (fj) ?_|refine xaa (fj) ?_);refine zev ?_
     refine zsx hat ?_;exact zn5 (hJ _ (⟨i+1,hlt⟩) (by first|omega|(dsimp only;omega)|(simp;omega))) hsu
  obtain rfl:i=F.length:=by omega
  rw [xjb];refine zst ?_;refine zrM hb0 mz ?_
  (exact⟨⟨F.map (fixI F.length),s,D⟩,q9,⟨xmy hs hD hF hF1,hD.w⟩,hq9,by(first|rfl|simp only [go_sem]|(simp only [go_sem];rfl)),rfl,by simp only [go_sem]⟩)
 refine zst ?_;have f9:=xav l q 9 hq1 (by decide);have v0:=xc0 (l:=l) (k:=q) (n:=9) (by decide);have v1:=xc1 (l:=l) (k:=q) (n:=9) (by decide);have hq9:=xa4 hq1;generalize dnx l q 9=v at f9 v0 v1;generalize dkx l q=q9 at f9 hq9;have hE:preC s.length (C++[⟨1,0,0,0,v⟩,⟨23,0,0,0,0⟩]) 65:=xi9 (n:=63) ⟨hC.1,by omega⟩ (all_cons (xcg ⟨by omega,by omega⟩ ⟨by omega,by omega⟩) (all_cons (xby ⟨by omega,by omega⟩) all_nil)) (by simp;omega);refine zcm (f9) ?_;refine zcd (xfg 0 v) ?_
 (first|refine xaj (xbf 0) ?_|refine xaa (xbf 0) ?_);refine zev ?_
 have hF:preC s.length (C++[⟨1,0,0,0,v⟩,⟨23,0,0,0,0⟩]:List PInstr) 64:=⟨hE.1,by simp;omega⟩;have hF1:1≤(C++[⟨1,0,0,0,v⟩,⟨23,0,0,0,0⟩]:List PInstr).length:=by simp
 have hFl:(C++[⟨1,0,0,0,v⟩,⟨23,0,0,0,0⟩]:List PInstr).length=C.length+2:=by simp
 refine zst ?_;refine xef 4 ((C++[⟨1,0,0,0,v⟩,⟨23,0,0,0,0⟩]:List PInstr).map xcj) rfl (by simp only [List.map_append,List.map_cons,List.map_nil,List.append_assoc,List.cons_append,List.nil_append,List.map_take];exact SubVs.refl _) (xa1 _ _) (xaz (f:=xcj) (s:=5) (fun _=>rfl) _) ?_;refine zls ?_;generalize (C++[⟨1,0,0,0,v⟩,⟨23,0,0,0,0⟩]:List PInstr)=F at hF hF1 hFl⊢;have fix0:fixN F.length F 0=F:=by simp [fixN]
 refine xay [2,3,101] (fun p:{p:Nat // p≤F.length}=>[(102,.int .i64 p.1)]) (fun p=>[⟨.box true 84,true,0,xcu l q9⟩,⟨.box false 29,true,0,.agg [.nilS,.nilS,.nilS]⟩,⟨.box false 29,true,0,.agg [.own 4 (g+1),.sl false 1 (i64s s),.own 3 s.length]⟩,⟨.row 40,true,s.length,.arr 1 (D.map (slV' false 1 (V.int .u16)))⟩,⟨.row 124,true,(g+1),.arr 5 ((fixN F.length F p.1).map xcj)⟩]) (fun p=>F.length-p.1) (⟨0,by omega⟩) 5 (by simp only [go_sem];rfl) ?_ (by first|rfl|(simp only [go_sem];done)|(simp only [go_sem];simp [fix0];done)) (by simp) (by first|rfl|(simp only [go_sem];done)|(simp only [fix0];(try simp only [go_sem]);first|done|rfl)) (by first|rfl|(simp only [go_sem];done)) (by first|rfl|(simp only [go_sem];done)|(simp only [fix0];(try simp only [go_sem]);first|done|rfl)) ?_
 ·(simp only [go_sem];(try simp [fix0]);done)
 intro J hJ
 rintro⟨i,hi⟩
 have hfl:=xi5 F.length F i;by_cases hlt:i<F.length
 ·have hat:=xmh (N:=F.length) hlt
  have hsu:=xhk (N:=F.length) hlt;have fj:=xjg F[i]!.op;by_cases hj:xbm F[i]!.op∧(F.length:Int)≤F[i]!.imm
  ·rw [decT hj.1] at fj
   have hj2:=hj.2;rw [fixI,if_pos hj] at hsu;generalize fixN F.length F i=G at hfl hat hsu⊢;refine zsx hat ?_
   (first|refine xaj (fj) ?_|refine xaa (fj) ?_);refine zev ?_
   refine zsx hat ?_;refine xbw 5 (hJ _ (⟨i+1,hlt⟩) (by first|omega|(dsimp only;omega)|(simp;omega))) rfl (by simp) ?_ (by first|rfl|(simp only [go_sem];done)) (by first|rfl|(simp only [go_sem];done)|(simp only [hsu,List.map_set];(try simp only [go_sem]);first|done|rfl)) ?_
   ·(first|rfl|(simp only [go_sem];done)|(simp only [go_sem];simp only [hsu,List.map_set];done)|(simp only [hsu,List.map_set];done)|(simp only [go_sem];simp [hsu,List.map_set];done)|(simp [hsu,List.map_set];done))
   ·(simp only [go_sem];(repeat' (refine And.intro ?_ ?_))<;>first|exact trivial|with_reducible rfl|(simp only [hsu,List.map_set];done)|(simp only [hsu,List.map_set];with_reducible rfl)|(simp [hsu,List.map_set];done)|(simp [hsu,List.map_set];omega)|(simp only [hsu,List.map_set];rfl)|skip)
  ·have hsu:fixN F.length F (i+1)=fixN F.length F i:=by rw [hsu,fixI,if_neg hj,←hat,xjt (by omega)]
   generalize fixN F.length F i=G at hfl hat hsu⊢;by_cases hj1:xbm F[i]!.op
   ·rw [decT hj1] at fj
    have hj2:¬(F.length:Int)≤F[i]!.imm:=fun e=>hj ⟨hj1,e⟩;refine zsx hat ?_
    (first|refine xaj (fj) ?_|refine xaa (fj) ?_);refine zev ?_
    refine zsx hat ?_;exact zn5 (hJ _ (⟨i+1,hlt⟩) (by first|omega|(dsimp only;omega)|(simp;omega))) hsu
   ·rw [decF hj1] at fj
    refine zsx hat ?_
    (first|refine xaj (fj) ?_|refine xaa (fj) ?_);refine zev ?_
    refine zsx hat ?_;exact zn5 (hJ _ (⟨i+1,hlt⟩) (by first|omega|(dsimp only;omega)|(simp;omega))) hsu
 obtain rfl:i=F.length:=by omega
 rw [xjb];refine zst ?_;refine zrM hb0 mz ?_
 (exact⟨⟨F.map (fixI F.length),s,D⟩,q9,⟨xmy hs hD hF hF1,hD.w⟩,hq9,by(first|rfl|simp only [go_sem]|(simp only [go_sem];rfl)),rfl,by simp only [go_sem]⟩)
end Go.Proofs.YtbgpfigkcpmnfaaGreat
