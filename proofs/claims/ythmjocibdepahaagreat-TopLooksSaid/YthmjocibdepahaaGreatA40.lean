import Derived.Test.YthmjocibdepahaaGreatA39
set_option linter.defProp false
set_option linter.unusedSimpArgs false
set_option linter.unusedVariables false
set_option maxHeartbeats 64000000
set_option maxRecDepth 100000
namespace Go.Proofs.YthmjocibdepahaaGreat
open Go Go.RowKit Rdn Rdn.Dp
def xgt:=zcs 59
structure okData (s:List Int) (i:Nat) (D:List (List Int)):Prop where
 n:D.length=i
 le:∀j:Nat,j<i→(D[j]!.length:Int)≤s[j]!
 w:∀d∈D,∀v∈d,0≤v∧v≤65535
theorem ypx (s:List Int):okData s 0 []:=⟨rfl,fun j hj=>absurd hj ω,fun d hd=>by cases hd⟩
theorem ypy {s:List Int} {i:Nat} {D:List (List Int)} (h:okData s i D) {d:List Int} (h1:(d.length:Int)≤s[i]!) (h2:∀v∈d,0≤v∧v≤65535):okData s (i+1) (D++[d]):=by
 have hn:=h.n;refine⟨by rw [List.length_append,List.length_singleton,h.n],fun j hj=>?_,fun e he=>?_⟩
 ·by_cases e:j<i
  ·rw [getElem!_pos _ j (by rw [List.length_append,List.length_singleton];omega),List.getElem_append_left ω,←getElem!_pos]
   exact h.le j e
  ·obtain rfl:j=i:=ω
   rw [getElem!_pos _ j (by rw [List.length_append,List.length_singleton];omega),List.getElem_append_right ω];simpa [hn] using h1
 ·rcases List.mem_append.1 he with he|he
  ·exact h.w e he
  ·rw [List.mem_singleton] at he;subst he;exact h2
def xac (S:Int) (C:List PInstr) (n:Nat):Prop:=(∀i∈C,vS S i)∧C.length≤n
theorem xh7 {S:Int} {C D:List PInstr} {n m:Nat} (h:xac S C n) (k:∀i∈D,vS S i) (hm:C.length+D.length≤m):xac S (C++D) m:=⟨fun i hi=>by
 rcases List.mem_append.1 hi with hi|hi
 ·exact h.1 i hi
 ·exact k i hi,by rw [List.length_append];exact hm⟩
theorem yrf {S m:Int} (hm:0≤m∧m≤65535):vS S ⟨18,0,0,0,m⟩:=sZ (u0:=false) (u1:=false) (u2:=false) (u3:=true) rfl δ δ δ δ hm (fun _=>rfl) (fun _=>rfl) (fun _=>rfl) (fun h=>by cases h) (fun h=>by cases h) (fun h=>by cases h)
theorem yrh {S:Int}:vS S ⟨24,0,0,0,0⟩:=sZ (u0:=false) (u1:=false) (u2:=false) (u3:=false) rfl δ δ δ δ δ (fun _=>rfl) (fun _=>rfl) (fun _=>rfl) (fun _=>rfl) (fun h=>by cases h) (fun h=>by cases h)
def nD (N:Nat) (i:PInstr):PInstr:=if eF i.op∧(N:Int)≤i.imm then {i with imm:=0} else i
theorem xjt {α:Type} [Inhabited α] {l:List α} {i:Nat} (h:i<l.length):l.set i l[i]! =l:=by
 rw [getElem!_pos l i h];exact List.set_getElem_self h
def iC (N:Nat) (C:List PInstr) (k:Nat):List PInstr:=(C.take k).map (nD N)++C.drop k
theorem xgf (N:Nat) (C:List PInstr) (k:Nat):(iC N C k).length=C.length:=by
 unfold iC;rw [List.length_append,List.length_map,List.length_take,List.length_drop];omega
theorem xif {N:Nat} {C:List PInstr} {k:Nat} (h:k<C.length):(iC N C k)[k]! =C[k]!:=by
 rw [getElem!_pos _ k (by rw [xgf];exact h)];unfold iC;rw [List.getElem_append_right (by rw [List.length_map,List.length_take];omega)];simp [Nat.min_eq_left (Nat.le_of_lt h),h]
theorem xih {N:Nat} {C:List PInstr} {k:Nat} (h:k<C.length):iC N C (k+1)=(iC N C k).set k (nD N C[k]!):=by
 unfold iC;have hl:((C.take k).map (nD N)).length=k:=by rw [List.length_map,List.length_take];omega
 rw [List.set_append_right _ _ ω,hl,Nat.sub_self,List.drop_eq_getElem_cons h,List.set_cons_zero,List.take_succ_eq_append_getElem h,List.map_append,List.append_assoc,getElem!_pos C k h];rfl
theorem xig (N:Nat) (C:List PInstr):iC N C C.length=C.map (nD N):=by unfold iC;simp
theorem ylh {S:Int} {N:Nat} (hN:1≤N∧N≤64) (hS:S≤4) {i:PInstr} (h:vS S i):xjd (nD N i)∧(eF (nD N i).op→(nD N i).imm<N)∧((nD N i).op=15→(nD N i).imm<S):=by
 obtain⟨o,a,b,c,⟨m0,m1,m2⟩,h15,h23⟩:=h;unfold nD;by_cases e:eF i.op∧(N:Int)≤i.imm
 ·rw [if_pos e]
  have hj:=e.1;unfold eF at hj;exact⟨⟨o.1,o.2,a,b,c,⟨by show(0:Int)≤0;decide,by show(0:Int)≤65535;decide,fun _=>rfl⟩,fun _=>by show(0:Int)<64;decide,fun q=>by dsimp only at q;omega,fun q=>by dsimp only at q;omega⟩,fun _=>by show(0:Int)<N;omega,fun q=>by dsimp only at q;omega⟩
 ·rw [if_neg e]
  have hj:eF i.op→i.imm<N:=fun q=>Int.not_le.1 fun r=>e ⟨q,r⟩;exact⟨⟨o.1,o.2,a,b,c,⟨m0,m1,m2⟩,fun q=>by have:=hj q;omega,fun q=>by have:=h15 q;omega,h23⟩,hj,h15⟩
theorem xjj {s:List Int} (hs:oO s) {D:List (List Int)} (hD:okData s s.length D) {C:List PInstr} (hC:xac s.length C 64) (h1:1≤C.length):okProg ⟨C.map (nD C.length),s,D⟩:=by
 refine⟨hs,hD.n,hD.le,by show 1≤(C.map _).length;rw [List.length_map];exact h1,by show(C.map _).length≤64;rw [List.length_map];exact hC.2,fun i hi=>?_⟩;obtain⟨j,hj,rfl⟩:=List.mem_map.1 hi;have h3:=hs.2.2;have:=ylh (N:=C.length) ⟨h1,hC.2⟩ ω (hC.1 j hj);show _∧(_→_<((C.map (nD C.length)).length:Int))∧_;rw [List.length_map];exact this
structure Hc (p:Prop):Prop where
 h:p
theorem yji (l:List Int) (k:Nat) (hk:k≤l.length):FncM Tryz.prog 59 87 (gV l k) [] (fun x obs c=>∃(p:PProg) (k':Nat),(okProg p∧∀d∈p.data,∀v∈d,0≤v∧v≤65535)∧k'≤l.length∧x=dM false p∧obs=[]∧c=gV l k'):=by
 refine FncM.low ?_;refine qX xgt fun W S b0 hb0=>?_;refine xfr (yw5 l k hk) rfl τ rfl φ φ φ (by first|rfl|(simp only [go_sem];done)|(simp only [go_sem];rfl)) fun x obs d hR=>?_;obtain⟨s,q0,hs,hq0,rfl,rfl,rfl⟩:=hR;simp only [V.shift,V.shifts,xfp,List.map_nil,List.append_nil,List.set_cons_zero];refine aA ?_;refine lZ 2 2 88 1 rfl rfl δ rfl ?_;refine aK ?_;refine lZ 2 0 223 5 rfl rfl δ rfl ?_;simp only [List.set_cons_zero,List.set_cons_succ,List.cons_append,List.nil_append,List.length_cons,List.length_nil,Nat.zero_add,Nat.reduceAdd];have hs4:=hs.2.2;refine bI [0,2,3,13,14] (fun p:{p:Nat×List (List Int)×Nat // p.1≤s.length∧okData s p.1 p.2.1∧p.2.2≤l.length}=>[(15,.int .i64 p.1.1)]) (fun p=>[⟨.box true 87,true,0,gV l p.1.2.2⟩,⟨.box false 30,true,0,.agg [.nilS,.nilS,.nilS]⟩,⟨.box false 30,true,0,.agg [.own 4 0,.sl false 1 (bH s),.own 3 p.1.1]⟩,⟨.row 88,true,p.1.1,.arr 1 (p.1.2.1.map (bD false 1 (V.int .u16)))⟩,⟨.row 223,true,0,.arr 5 []⟩]) (fun p=>s.length-p.1.1) (⟨(0,[],q0),ω,ypx s,hq0⟩) 5 ?_;intro J hJ
 rintro⟨⟨i,D,q⟩,hi,hD,hq⟩
 dsimp only at hi hD hq;by_cases hlt:i<s.length
 ·have hsi:=hs.1 _ (dJ (l:=s) (k:=i) hlt)
  have fw:=xfx l q s[i]! hq ω ω;have hwl:=yI (l:=l) (k:=q) (n:=s[i]!) ω;have hwo:=xvz l q s[i]!;have hwq:=zU hq s[i]!;generalize bJ l q s[i]! =Z at fw hwl hwo hwq;obtain⟨ws,q2⟩:=Z;dsimp only at fw hwl hwo hwq;have hDn:=hD.n;have hsn:(D++[ws]).map (bD false 1 (V.int .u16))=D.map (bD false 1 (V.int .u16))++[.sl false 1 (xjx ws)]:=by simp [bD]
  refine aA ?_;refine aO (fw) ?_;exact rQ (hJ _ (⟨(i+1,D++[ws],q2),hlt,ypy hD ω hwo,hwq⟩) ψ) hsn
 obtain rfl:i=s.length:=ω;refine aA ?_;have z0:=iT (l:=l) (k:=q) (n:=12) δ;have z1:=iZ (l:=l) (k:=q) (n:=12) δ;refine aO (fB l q 12 hq δ) ?_;obtain⟨K,hK⟩:∃K:Nat,1+aG l q 12=K:=⟨(1+aG l q 12).toNat,ω⟩;rw [hK];have hK12:K≤12:=ω;have hq1:=aH hq;generalize aB l q=q at hq1;clear hK z0 z1;refine bI [0,2,3] (fun p:{p:Nat×List PInstr×Nat×Nat // p.1≤K∧xac s.length p.2.1 62∧p.2.2.2≤l.length}=>[(6,.int .i64 (K-p.1.1))]) (fun p=>[⟨.box true 87,true,0,gV l p.1.2.2.2⟩,⟨.box false 30,true,0,.agg [.nilS,.nilS,.nilS]⟩,⟨.box false 30,true,0,.agg [.own 4 p.1.2.2.1,.sl false 1 (bH s),.own 3 s.length]⟩,⟨.row 88,true,s.length,.arr 1 (D.map (bD false 1 (V.int .u16)))⟩,⟨.row 223,true,p.1.2.2.1,.arr 5 (p.1.2.1.map nT)⟩]) (fun p=>K-p.1.1) (⟨(0,[],0,q),ω,⟨(fun i hi=>by cases hi),by simp⟩,hq1⟩) 5 ?_;intro J hJ
 rintro⟨⟨j,C,g,q⟩,hj,hC,hq⟩
 dsimp only at hj hC hq;by_cases hlt:j<K
 ·have hcl:=hC.2
  have hkj:(K:Int)-((j+1:Nat):Int)=K-j-1:=ω;refine aA ?_;refine xfr (yrk l q hq s hs (C.length+1) C.length ⟨ω,ω⟩ ⟨ω,ω⟩) rfl τ rfl φ φ φ (by first|rfl|(simp only [go_sem];done)|(simp only [go_sem];rfl)) fun x obs d hR=>?_;obtain⟨out,q2,⟨ho,hol⟩,hq2,rfl,rfl,rfl⟩:=hR;simp only [V.shift,V.shifts,xfp,List.map_nil,List.append_nil,List.set_cons_zero];by_cases hle:C.length+out.length≤62
  ·refine aA ?_
   refine lI 5 (hJ _ (⟨(j+1,C++out,g+1,q2),hlt,xh7 hC ho hle,hq2⟩) ψ) rfl ξ ?_ φ (by first|rfl|(simp only [go_sem];done)|(simp only [List.map_append,hkj];(try simp only [go_sem]);first|done|rfl)) ?_
   ·(first|rfl|(simp only [go_sem];done)|(simp only [go_sem];simp only [List.map_append,hkj];done)|(simp only [List.map_append,hkj];done)|(simp only [go_sem];simp [List.map_append,hkj];done)|(simp [List.map_append,hkj];done))
   ·(simp only [go_sem];(repeat' (refine And.intro ?_ ?_))<;>first|exact trivial|with_reducible rfl|(simp only [List.map_append,hkj];done)|(simp only [List.map_append,hkj];with_reducible rfl)|(simp [List.map_append,hkj];done)|(simp [List.map_append,hkj];omega)|(simp only [List.map_append,hkj];rfl)|skip)
  ·refine aA ?_
   exact rQ (hJ _ (⟨(j+1,C,g,q2),hlt,hC,hq2⟩) ψ) hkj
 obtain rfl:j=K:=ω;have hcl:=hC.2;have z0:=iT (l:=l) (k:=q) (n:=4) δ;have z1:=iZ (l:=l) (k:=q) (n:=4) δ;have f4:=fB l q 4 hq δ;have hq1:=aH hq;generalize aB l q=q at hq1 f4;generalize aG l _ 4=z at f4 z0 z1;refine aA ?_;refine aO (f4) ?_;by_cases e0:z=0
 ·have m0:=iT (l:=l) (k:=q) (n:=C.length+1) ω
  have m1:=iZ (l:=l) (k:=q) (n:=C.length+1) ω;have fj:=fB l q (C.length+1) hq1 ω;have hq2:=aH hq1;generalize aG l q (C.length+1)=m at fj m0 m1;generalize aB l q=q2 at fj hq2;refine aA ?_;refine aO (fj) ?_;have f9:=fB l q2 9 hq2 δ;have v0:=iT (l:=l) (k:=q2) (n:=9) δ;have v1:=iZ (l:=l) (k:=q2) (n:=9) δ;have hq9:=aH hq2;generalize aG l q2 9=v at f9 v0 v1;generalize aB l q2=q9 at f9 hq9;have hE:xac s.length ((C++[⟨18,0,0,0,m⟩])++[⟨1,0,0,0,v⟩,⟨23,0,0,0,0⟩]) 65:=xh7 (n:=63) (xh7 (m:=63) hC (all_cons (yrf ⟨m0,ω⟩) all_nil) (by simp;omega)) (all_cons (nZ ⟨ω,ω⟩ ⟨ω,ω⟩) (all_cons (qE ⟨ω,ω⟩) all_nil)) (by simp;omega);refine aO (f9) ?_;refine aF (pY 0 v) ?_;refine bZ (oV 0) ?_;refine dI κ ?_;by_cases hc:C.length=62
  ·have hch:Hc (C.length=62):=⟨hc⟩
   clear hc;refine aA ?_;have hc:=hch.h;refine dR rfl ?_ ?_
   ·simp<;>omega
   refine kZ (dH (fu:=[(),()]) ?_);refine bK ?_;refine xbt (xF (r:=4) (g:=g+2) (kk:=.row 223) rfl (.inl rfl) rfl trivial trivial (by simp only [go_sem];done) (by simp only [go_sem]<;>omega) (by simp only [go_sem]<;>omega)) rfl ?_;simp only [go_sem];refine xwa 97 4 rfl rfl (by simp only [go_sem]<;>omega) ?_;refine aK ?_;have hF:xac s.length (((C++[⟨18,0,0,0,m⟩])++[⟨1,0,0,0,v⟩,⟨23,0,0,0,0⟩]:List PInstr).take 64) 64:=⟨fun i hi=>hE.1 i (List.mem_of_mem_take hi),by rw [List.length_take];omega⟩;have hF1:1≤(((C++[⟨18,0,0,0,m⟩])++[⟨1,0,0,0,v⟩,⟨23,0,0,0,0⟩]:List PInstr).take 64).length:=by simp [hc]
   have hFl:(((C++[⟨18,0,0,0,m⟩])++[⟨1,0,0,0,v⟩,⟨23,0,0,0,0⟩]:List PInstr).take 64).length=64:=by simp [hc]
   refine aA ?_;refine xds 4 ((((C++[⟨18,0,0,0,m⟩])++[⟨1,0,0,0,v⟩,⟨23,0,0,0,0⟩]:List PInstr).take 64).map nT) rfl (by simp only [List.map_append,List.map_cons,List.map_nil,List.append_assoc,List.cons_append,List.nil_append,List.map_take];exact SubVs.refl _) (bV _ _) (mQ (f:=nT) (s:=5) (fun _=>rfl) _) ?_;refine aK ?_;generalize (((C++[⟨18,0,0,0,m⟩])++[⟨1,0,0,0,v⟩,⟨23,0,0,0,0⟩]:List PInstr).take 64)=F at hF hF1 hFl⊢;have fix0:iC F.length F 0=F:=by simp [iC]
   refine gY [2,3,101] (fun p:{p:Nat // p≤F.length}=>[(102,.int .i64 p.1)]) (fun p=>[⟨.box true 87,true,0,gV l q9⟩,⟨.box false 30,true,0,.agg [.nilS,.nilS,.nilS]⟩,⟨.box false 30,true,0,.agg [.own 4 (g+3),.sl false 1 (bH s),.own 3 s.length]⟩,⟨.row 88,true,s.length,.arr 1 (D.map (bD false 1 (V.int .u16)))⟩,⟨.row 223,true,(g+3),.arr 5 ((iC F.length F p.1).map nT)⟩]) (fun p=>F.length-p.1) (⟨0,ω⟩) 5 τ ?_ (by first|rfl|(simp only [go_sem];done)|(simp only [go_sem];simp [fix0];done)) ξ (by first|rfl|(simp only [go_sem];done)|(simp only [fix0];(try simp only [go_sem]);first|done|rfl)) φ (by first|rfl|(simp only [go_sem];done)|(simp only [fix0];(try simp only [go_sem]);first|done|rfl)) ?_
   ·(simp only [go_sem];(try simp [fix0]);done)
   intro J hJ
   rintro⟨i,hi⟩
   have hfl:=xgf F.length F i;by_cases hlt:i<F.length
   ·have hat:=xif (N:=F.length) hlt
    have hsu:=xih (N:=F.length) hlt;have fj:=xcs F[i]!.op;by_cases hj:eF F[i]!.op∧(F.length:Int)≤F[i]!.imm
    ·rw [aN hj.1] at fj
     have hj2:=hj.2;rw [nD,if_pos hj] at hsu;generalize iC F.length F i=G at hfl hat hsu⊢;refine aY hat ?_;refine bZ (fj) ?_;refine aY hat ?_;refine lI 5 (hJ _ (⟨i+1,hlt⟩) ψ) rfl ξ ?_ φ (by first|rfl|(simp only [go_sem];done)|(simp only [hsu,List.map_set];(try simp only [go_sem]);first|done|rfl)) ?_
     ·(first|rfl|(simp only [go_sem];done)|(simp only [go_sem];simp only [hsu,List.map_set];done)|(simp only [hsu,List.map_set];done)|(simp only [go_sem];simp [hsu,List.map_set];done)|(simp [hsu,List.map_set];done))
     ·(simp only [go_sem];(repeat' (refine And.intro ?_ ?_))<;>first|exact trivial|with_reducible rfl|(simp only [hsu,List.map_set];done)|(simp only [hsu,List.map_set];with_reducible rfl)|(simp [hsu,List.map_set];done)|(simp [hsu,List.map_set];omega)|(simp only [hsu,List.map_set];rfl)|skip)
    ·have hsu:iC F.length F (i+1)=iC F.length F i:=by rw [hsu,nD,if_neg hj,←hat,xjt ω]
     generalize iC F.length F i=G at hfl hat hsu⊢;by_cases hj1:eF F[i]!.op
     ·rw [aN hj1] at fj
      have hj2:¬(F.length:Int)≤F[i]!.imm:=fun e=>hj ⟨hj1,e⟩;refine aY hat ?_;refine bZ (fj) ?_;refine aY hat ?_;exact rQ (hJ _ (⟨i+1,hlt⟩) ψ) hsu
     ·rw [aJ hj1] at fj
      refine aY hat ?_;refine bZ (fj) ?_;refine aY hat ?_;exact rQ (hJ _ (⟨i+1,hlt⟩) ψ) hsu
   obtain rfl:i=F.length:=ω;rw [xig];refine aA ?_;refine dE hb0 xgt ?_
   (exact⟨⟨F.map (nD F.length),s,D⟩,q9,⟨xjj hs hD hF hF1,hD.w⟩,hq9,by(first|rfl|simp only [go_sem]|(simp only [go_sem];rfl)),rfl,by simp only [go_sem]⟩)
  have hF:xac s.length ((C++[⟨18,0,0,0,m⟩])++[⟨1,0,0,0,v⟩,⟨23,0,0,0,0⟩]:List PInstr) 64:=⟨hE.1,by simp;omega⟩;have hF1:1≤((C++[⟨18,0,0,0,m⟩])++[⟨1,0,0,0,v⟩,⟨23,0,0,0,0⟩]:List PInstr).length:=by simp
  have hFl:((C++[⟨18,0,0,0,m⟩])++[⟨1,0,0,0,v⟩,⟨23,0,0,0,0⟩]:List PInstr).length=C.length+3:=by simp
  refine aA ?_;refine xds 4 (((C++[⟨18,0,0,0,m⟩])++[⟨1,0,0,0,v⟩,⟨23,0,0,0,0⟩]:List PInstr).map nT) rfl (by simp only [List.map_append,List.map_cons,List.map_nil,List.append_assoc,List.cons_append,List.nil_append,List.map_take];exact SubVs.refl _) (bV _ _) (mQ (f:=nT) (s:=5) (fun _=>rfl) _) ?_;refine aK ?_;generalize ((C++[⟨18,0,0,0,m⟩])++[⟨1,0,0,0,v⟩,⟨23,0,0,0,0⟩]:List PInstr)=F at hF hF1 hFl⊢;have fix0:iC F.length F 0=F:=by simp [iC]
  refine gY [2,3,101] (fun p:{p:Nat // p≤F.length}=>[(102,.int .i64 p.1)]) (fun p=>[⟨.box true 87,true,0,gV l q9⟩,⟨.box false 30,true,0,.agg [.nilS,.nilS,.nilS]⟩,⟨.box false 30,true,0,.agg [.own 4 (g+2),.sl false 1 (bH s),.own 3 s.length]⟩,⟨.row 88,true,s.length,.arr 1 (D.map (bD false 1 (V.int .u16)))⟩,⟨.row 223,true,(g+2),.arr 5 ((iC F.length F p.1).map nT)⟩]) (fun p=>F.length-p.1) (⟨0,ω⟩) 5 τ ?_ (by first|rfl|(simp only [go_sem];done)|(simp only [go_sem];simp [fix0];done)) ξ (by first|rfl|(simp only [go_sem];done)|(simp only [fix0];(try simp only [go_sem]);first|done|rfl)) φ (by first|rfl|(simp only [go_sem];done)|(simp only [fix0];(try simp only [go_sem]);first|done|rfl)) ?_
  ·(simp only [go_sem];(try simp [fix0]);done)
  intro J hJ
  rintro⟨i,hi⟩
  have hfl:=xgf F.length F i;by_cases hlt:i<F.length
  ·have hat:=xif (N:=F.length) hlt
   have hsu:=xih (N:=F.length) hlt;have fj:=xcs F[i]!.op;by_cases hj:eF F[i]!.op∧(F.length:Int)≤F[i]!.imm
   ·rw [aN hj.1] at fj
    have hj2:=hj.2;rw [nD,if_pos hj] at hsu;generalize iC F.length F i=G at hfl hat hsu⊢;refine aY hat ?_;refine bZ (fj) ?_;refine aY hat ?_;refine lI 5 (hJ _ (⟨i+1,hlt⟩) ψ) rfl ξ ?_ φ (by first|rfl|(simp only [go_sem];done)|(simp only [hsu,List.map_set];(try simp only [go_sem]);first|done|rfl)) ?_
    ·(first|rfl|(simp only [go_sem];done)|(simp only [go_sem];simp only [hsu,List.map_set];done)|(simp only [hsu,List.map_set];done)|(simp only [go_sem];simp [hsu,List.map_set];done)|(simp [hsu,List.map_set];done))
    ·(simp only [go_sem];(repeat' (refine And.intro ?_ ?_))<;>first|exact trivial|with_reducible rfl|(simp only [hsu,List.map_set];done)|(simp only [hsu,List.map_set];with_reducible rfl)|(simp [hsu,List.map_set];done)|(simp [hsu,List.map_set];omega)|(simp only [hsu,List.map_set];rfl)|skip)
   ·have hsu:iC F.length F (i+1)=iC F.length F i:=by rw [hsu,nD,if_neg hj,←hat,xjt ω]
    generalize iC F.length F i=G at hfl hat hsu⊢;by_cases hj1:eF F[i]!.op
    ·rw [aN hj1] at fj
     have hj2:¬(F.length:Int)≤F[i]!.imm:=fun e=>hj ⟨hj1,e⟩;refine aY hat ?_;refine bZ (fj) ?_;refine aY hat ?_;exact rQ (hJ _ (⟨i+1,hlt⟩) ψ) hsu
    ·rw [aJ hj1] at fj
     refine aY hat ?_;refine bZ (fj) ?_;refine aY hat ?_;exact rQ (hJ _ (⟨i+1,hlt⟩) ψ) hsu
  obtain rfl:i=F.length:=ω;rw [xig];refine aA ?_;refine dE hb0 xgt ?_
  (exact⟨⟨F.map (nD F.length),s,D⟩,q9,⟨xjj hs hD hF hF1,hD.w⟩,hq9,by(first|rfl|simp only [go_sem]|(simp only [go_sem];rfl)),rfl,by simp only [go_sem]⟩)
 by_cases e1:z=1
 ·refine aA ?_
  have f9:=fB l q 9 hq1 δ;have v0:=iT (l:=l) (k:=q) (n:=9) δ;have v1:=iZ (l:=l) (k:=q) (n:=9) δ;have hq9:=aH hq1;generalize aG l q 9=v at f9 v0 v1;generalize aB l q=q9 at f9 hq9;have hE:xac s.length ((C++[⟨24,0,0,0,0⟩])++[⟨1,0,0,0,v⟩,⟨23,0,0,0,0⟩]) 65:=xh7 (n:=63) (xh7 (m:=63) hC (all_cons yrh all_nil) (by simp;omega)) (all_cons (nZ ⟨ω,ω⟩ ⟨ω,ω⟩) (all_cons (qE ⟨ω,ω⟩) all_nil)) (by simp;omega);refine aO (f9) ?_;refine aF (pY 0 v) ?_;refine bZ (oV 0) ?_;refine dI κ ?_;by_cases hc:C.length=62
  ·have hch:Hc (C.length=62):=⟨hc⟩
   clear hc;refine aA ?_;have hc:=hch.h;refine dR rfl ?_ ?_
   ·simp<;>omega
   refine kZ (dH (fu:=[(),()]) ?_);refine bK ?_;refine xbt (xF (r:=4) (g:=g+2) (kk:=.row 223) rfl (.inl rfl) rfl trivial trivial (by simp only [go_sem];done) (by simp only [go_sem]<;>omega) (by simp only [go_sem]<;>omega)) rfl ?_;simp only [go_sem];refine xwa 97 4 rfl rfl (by simp only [go_sem]<;>omega) ?_;refine aK ?_;have hF:xac s.length (((C++[⟨24,0,0,0,0⟩])++[⟨1,0,0,0,v⟩,⟨23,0,0,0,0⟩]:List PInstr).take 64) 64:=⟨fun i hi=>hE.1 i (List.mem_of_mem_take hi),by rw [List.length_take];omega⟩;have hF1:1≤(((C++[⟨24,0,0,0,0⟩])++[⟨1,0,0,0,v⟩,⟨23,0,0,0,0⟩]:List PInstr).take 64).length:=by simp [hc]
   have hFl:(((C++[⟨24,0,0,0,0⟩])++[⟨1,0,0,0,v⟩,⟨23,0,0,0,0⟩]:List PInstr).take 64).length=64:=by simp [hc]
   refine aA ?_;refine xds 4 ((((C++[⟨24,0,0,0,0⟩])++[⟨1,0,0,0,v⟩,⟨23,0,0,0,0⟩]:List PInstr).take 64).map nT) rfl (by simp only [List.map_append,List.map_cons,List.map_nil,List.append_assoc,List.cons_append,List.nil_append,List.map_take];exact SubVs.refl _) (bV _ _) (mQ (f:=nT) (s:=5) (fun _=>rfl) _) ?_;refine aK ?_;generalize (((C++[⟨24,0,0,0,0⟩])++[⟨1,0,0,0,v⟩,⟨23,0,0,0,0⟩]:List PInstr).take 64)=F at hF hF1 hFl⊢;have fix0:iC F.length F 0=F:=by simp [iC]
   refine gY [2,3,101] (fun p:{p:Nat // p≤F.length}=>[(102,.int .i64 p.1)]) (fun p=>[⟨.box true 87,true,0,gV l q9⟩,⟨.box false 30,true,0,.agg [.nilS,.nilS,.nilS]⟩,⟨.box false 30,true,0,.agg [.own 4 (g+3),.sl false 1 (bH s),.own 3 s.length]⟩,⟨.row 88,true,s.length,.arr 1 (D.map (bD false 1 (V.int .u16)))⟩,⟨.row 223,true,(g+3),.arr 5 ((iC F.length F p.1).map nT)⟩]) (fun p=>F.length-p.1) (⟨0,ω⟩) 5 τ ?_ (by first|rfl|(simp only [go_sem];done)|(simp only [go_sem];simp [fix0];done)) ξ (by first|rfl|(simp only [go_sem];done)|(simp only [fix0];(try simp only [go_sem]);first|done|rfl)) φ (by first|rfl|(simp only [go_sem];done)|(simp only [fix0];(try simp only [go_sem]);first|done|rfl)) ?_
   ·(simp only [go_sem];(try simp [fix0]);done)
   intro J hJ
   rintro⟨i,hi⟩
   have hfl:=xgf F.length F i;by_cases hlt:i<F.length
   ·have hat:=xif (N:=F.length) hlt
    have hsu:=xih (N:=F.length) hlt;have fj:=xcs F[i]!.op;by_cases hj:eF F[i]!.op∧(F.length:Int)≤F[i]!.imm
    ·rw [aN hj.1] at fj
     have hj2:=hj.2;rw [nD,if_pos hj] at hsu;generalize iC F.length F i=G at hfl hat hsu⊢;refine aY hat ?_;refine bZ (fj) ?_;refine aY hat ?_;refine lI 5 (hJ _ (⟨i+1,hlt⟩) ψ) rfl ξ ?_ φ (by first|rfl|(simp only [go_sem];done)|(simp only [hsu,List.map_set];(try simp only [go_sem]);first|done|rfl)) ?_
     ·(first|rfl|(simp only [go_sem];done)|(simp only [go_sem];simp only [hsu,List.map_set];done)|(simp only [hsu,List.map_set];done)|(simp only [go_sem];simp [hsu,List.map_set];done)|(simp [hsu,List.map_set];done))
     ·(simp only [go_sem];(repeat' (refine And.intro ?_ ?_))<;>first|exact trivial|with_reducible rfl|(simp only [hsu,List.map_set];done)|(simp only [hsu,List.map_set];with_reducible rfl)|(simp [hsu,List.map_set];done)|(simp [hsu,List.map_set];omega)|(simp only [hsu,List.map_set];rfl)|skip)
    ·have hsu:iC F.length F (i+1)=iC F.length F i:=by rw [hsu,nD,if_neg hj,←hat,xjt ω]
     generalize iC F.length F i=G at hfl hat hsu⊢;by_cases hj1:eF F[i]!.op
     ·rw [aN hj1] at fj
      have hj2:¬(F.length:Int)≤F[i]!.imm:=fun e=>hj ⟨hj1,e⟩;refine aY hat ?_;refine bZ (fj) ?_;refine aY hat ?_;exact rQ (hJ _ (⟨i+1,hlt⟩) ψ) hsu
     ·rw [aJ hj1] at fj
      refine aY hat ?_;refine bZ (fj) ?_;refine aY hat ?_;exact rQ (hJ _ (⟨i+1,hlt⟩) ψ) hsu
   obtain rfl:i=F.length:=ω;rw [xig];refine aA ?_;refine dE hb0 xgt ?_
   (exact⟨⟨F.map (nD F.length),s,D⟩,q9,⟨xjj hs hD hF hF1,hD.w⟩,hq9,by(first|rfl|simp only [go_sem]|(simp only [go_sem];rfl)),rfl,by simp only [go_sem]⟩)
  have hF:xac s.length ((C++[⟨24,0,0,0,0⟩])++[⟨1,0,0,0,v⟩,⟨23,0,0,0,0⟩]:List PInstr) 64:=⟨hE.1,by simp;omega⟩;have hF1:1≤((C++[⟨24,0,0,0,0⟩])++[⟨1,0,0,0,v⟩,⟨23,0,0,0,0⟩]:List PInstr).length:=by simp
  have hFl:((C++[⟨24,0,0,0,0⟩])++[⟨1,0,0,0,v⟩,⟨23,0,0,0,0⟩]:List PInstr).length=C.length+3:=by simp
  refine aA ?_;refine xds 4 (((C++[⟨24,0,0,0,0⟩])++[⟨1,0,0,0,v⟩,⟨23,0,0,0,0⟩]:List PInstr).map nT) rfl (by simp only [List.map_append,List.map_cons,List.map_nil,List.append_assoc,List.cons_append,List.nil_append,List.map_take];exact SubVs.refl _) (bV _ _) (mQ (f:=nT) (s:=5) (fun _=>rfl) _) ?_;refine aK ?_;generalize ((C++[⟨24,0,0,0,0⟩])++[⟨1,0,0,0,v⟩,⟨23,0,0,0,0⟩]:List PInstr)=F at hF hF1 hFl⊢;have fix0:iC F.length F 0=F:=by simp [iC]
  refine gY [2,3,101] (fun p:{p:Nat // p≤F.length}=>[(102,.int .i64 p.1)]) (fun p=>[⟨.box true 87,true,0,gV l q9⟩,⟨.box false 30,true,0,.agg [.nilS,.nilS,.nilS]⟩,⟨.box false 30,true,0,.agg [.own 4 (g+2),.sl false 1 (bH s),.own 3 s.length]⟩,⟨.row 88,true,s.length,.arr 1 (D.map (bD false 1 (V.int .u16)))⟩,⟨.row 223,true,(g+2),.arr 5 ((iC F.length F p.1).map nT)⟩]) (fun p=>F.length-p.1) (⟨0,ω⟩) 5 τ ?_ (by first|rfl|(simp only [go_sem];done)|(simp only [go_sem];simp [fix0];done)) ξ (by first|rfl|(simp only [go_sem];done)|(simp only [fix0];(try simp only [go_sem]);first|done|rfl)) φ (by first|rfl|(simp only [go_sem];done)|(simp only [fix0];(try simp only [go_sem]);first|done|rfl)) ?_
  ·(simp only [go_sem];(try simp [fix0]);done)
  intro J hJ
  rintro⟨i,hi⟩
  have hfl:=xgf F.length F i;by_cases hlt:i<F.length
  ·have hat:=xif (N:=F.length) hlt
   have hsu:=xih (N:=F.length) hlt;have fj:=xcs F[i]!.op;by_cases hj:eF F[i]!.op∧(F.length:Int)≤F[i]!.imm
   ·rw [aN hj.1] at fj
    have hj2:=hj.2;rw [nD,if_pos hj] at hsu;generalize iC F.length F i=G at hfl hat hsu⊢;refine aY hat ?_;refine bZ (fj) ?_;refine aY hat ?_;refine lI 5 (hJ _ (⟨i+1,hlt⟩) ψ) rfl ξ ?_ φ (by first|rfl|(simp only [go_sem];done)|(simp only [hsu,List.map_set];(try simp only [go_sem]);first|done|rfl)) ?_
    ·(first|rfl|(simp only [go_sem];done)|(simp only [go_sem];simp only [hsu,List.map_set];done)|(simp only [hsu,List.map_set];done)|(simp only [go_sem];simp [hsu,List.map_set];done)|(simp [hsu,List.map_set];done))
    ·(simp only [go_sem];(repeat' (refine And.intro ?_ ?_))<;>first|exact trivial|with_reducible rfl|(simp only [hsu,List.map_set];done)|(simp only [hsu,List.map_set];with_reducible rfl)|(simp [hsu,List.map_set];done)|(simp [hsu,List.map_set];omega)|(simp only [hsu,List.map_set];rfl)|skip)
   ·have hsu:iC F.length F (i+1)=iC F.length F i:=by rw [hsu,nD,if_neg hj,←hat,xjt ω]
    generalize iC F.length F i=G at hfl hat hsu⊢;by_cases hj1:eF F[i]!.op
    ·rw [aN hj1] at fj
     have hj2:¬(F.length:Int)≤F[i]!.imm:=fun e=>hj ⟨hj1,e⟩;refine aY hat ?_;refine bZ (fj) ?_;refine aY hat ?_;exact rQ (hJ _ (⟨i+1,hlt⟩) ψ) hsu
    ·rw [aJ hj1] at fj
     refine aY hat ?_;refine bZ (fj) ?_;refine aY hat ?_;exact rQ (hJ _ (⟨i+1,hlt⟩) ψ) hsu
  obtain rfl:i=F.length:=ω;rw [xig];refine aA ?_;refine dE hb0 xgt ?_
  (exact⟨⟨F.map (nD F.length),s,D⟩,q9,⟨xjj hs hD hF hF1,hD.w⟩,hq9,by(first|rfl|simp only [go_sem]|(simp only [go_sem];rfl)),rfl,by simp only [go_sem]⟩)
 refine aA ?_;have f9:=fB l q 9 hq1 δ;have v0:=iT (l:=l) (k:=q) (n:=9) δ;have v1:=iZ (l:=l) (k:=q) (n:=9) δ;have hq9:=aH hq1;generalize aG l q 9=v at f9 v0 v1;generalize aB l q=q9 at f9 hq9;have hE:xac s.length (C++[⟨1,0,0,0,v⟩,⟨23,0,0,0,0⟩]) 65:=xh7 (n:=63) ⟨hC.1,ω⟩ (all_cons (nZ ⟨ω,ω⟩ ⟨ω,ω⟩) (all_cons (qE ⟨ω,ω⟩) all_nil)) (by simp;omega);refine aO (f9) ?_;refine aF (pY 0 v) ?_;refine bZ (oV 0) ?_;have hF:xac s.length (C++[⟨1,0,0,0,v⟩,⟨23,0,0,0,0⟩]:List PInstr) 64:=⟨hE.1,by simp;omega⟩;have hF1:1≤(C++[⟨1,0,0,0,v⟩,⟨23,0,0,0,0⟩]:List PInstr).length:=by simp
 have hFl:(C++[⟨1,0,0,0,v⟩,⟨23,0,0,0,0⟩]:List PInstr).length=C.length+2:=by simp
 refine aA ?_;refine xds 4 ((C++[⟨1,0,0,0,v⟩,⟨23,0,0,0,0⟩]:List PInstr).map nT) rfl (by simp only [List.map_append,List.map_cons,List.map_nil,List.append_assoc,List.cons_append,List.nil_append,List.map_take];exact SubVs.refl _) (bV _ _) (mQ (f:=nT) (s:=5) (fun _=>rfl) _) ?_;refine aK ?_;generalize (C++[⟨1,0,0,0,v⟩,⟨23,0,0,0,0⟩]:List PInstr)=F at hF hF1 hFl⊢;have fix0:iC F.length F 0=F:=by simp [iC]
 refine gY [2,3,101] (fun p:{p:Nat // p≤F.length}=>[(102,.int .i64 p.1)]) (fun p=>[⟨.box true 87,true,0,gV l q9⟩,⟨.box false 30,true,0,.agg [.nilS,.nilS,.nilS]⟩,⟨.box false 30,true,0,.agg [.own 4 (g+1),.sl false 1 (bH s),.own 3 s.length]⟩,⟨.row 88,true,s.length,.arr 1 (D.map (bD false 1 (V.int .u16)))⟩,⟨.row 223,true,(g+1),.arr 5 ((iC F.length F p.1).map nT)⟩]) (fun p=>F.length-p.1) (⟨0,ω⟩) 5 τ ?_ (by first|rfl|(simp only [go_sem];done)|(simp only [go_sem];simp [fix0];done)) ξ (by first|rfl|(simp only [go_sem];done)|(simp only [fix0];(try simp only [go_sem]);first|done|rfl)) φ (by first|rfl|(simp only [go_sem];done)|(simp only [fix0];(try simp only [go_sem]);first|done|rfl)) ?_
 ·(simp only [go_sem];(try simp [fix0]);done)
 intro J hJ
 rintro⟨i,hi⟩
 have hfl:=xgf F.length F i;by_cases hlt:i<F.length
 ·have hat:=xif (N:=F.length) hlt
  have hsu:=xih (N:=F.length) hlt;have fj:=xcs F[i]!.op;by_cases hj:eF F[i]!.op∧(F.length:Int)≤F[i]!.imm
  ·rw [aN hj.1] at fj
   have hj2:=hj.2;rw [nD,if_pos hj] at hsu;generalize iC F.length F i=G at hfl hat hsu⊢;refine aY hat ?_;refine bZ (fj) ?_;refine aY hat ?_;refine lI 5 (hJ _ (⟨i+1,hlt⟩) ψ) rfl ξ ?_ φ (by first|rfl|(simp only [go_sem];done)|(simp only [hsu,List.map_set];(try simp only [go_sem]);first|done|rfl)) ?_
   ·(first|rfl|(simp only [go_sem];done)|(simp only [go_sem];simp only [hsu,List.map_set];done)|(simp only [hsu,List.map_set];done)|(simp only [go_sem];simp [hsu,List.map_set];done)|(simp [hsu,List.map_set];done))
   ·(simp only [go_sem];(repeat' (refine And.intro ?_ ?_))<;>first|exact trivial|with_reducible rfl|(simp only [hsu,List.map_set];done)|(simp only [hsu,List.map_set];with_reducible rfl)|(simp [hsu,List.map_set];done)|(simp [hsu,List.map_set];omega)|(simp only [hsu,List.map_set];rfl)|skip)
  ·have hsu:iC F.length F (i+1)=iC F.length F i:=by rw [hsu,nD,if_neg hj,←hat,xjt ω]
   generalize iC F.length F i=G at hfl hat hsu⊢;by_cases hj1:eF F[i]!.op
   ·rw [aN hj1] at fj
    have hj2:¬(F.length:Int)≤F[i]!.imm:=fun e=>hj ⟨hj1,e⟩;refine aY hat ?_;refine bZ (fj) ?_;refine aY hat ?_;exact rQ (hJ _ (⟨i+1,hlt⟩) ψ) hsu
   ·rw [aJ hj1] at fj
    refine aY hat ?_;refine bZ (fj) ?_;refine aY hat ?_;exact rQ (hJ _ (⟨i+1,hlt⟩) ψ) hsu
 obtain rfl:i=F.length:=ω;rw [xig];refine aA ?_;refine dE hb0 xgt ?_
 (exact⟨⟨F.map (nD F.length),s,D⟩,q9,⟨xjj hs hD hF hF1,hD.w⟩,hq9,by(first|rfl|simp only [go_sem]|(simp only [go_sem];rfl)),rfl,by simp only [go_sem]⟩)
end Go.Proofs.YthmjocibdepahaaGreat
