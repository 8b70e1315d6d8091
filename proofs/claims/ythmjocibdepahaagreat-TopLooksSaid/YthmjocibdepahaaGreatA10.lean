import Derived.Test.YthmjocibdepahaaGreatA9
set_option linter.defProp false
set_option linter.unusedSimpArgs false
set_option linter.unusedVariables false
set_option maxHeartbeats 64000000
set_option maxRecDepth 100000
namespace Go.Proofs.YthmjocibdepahaaGreat
open Go Go.RowKit Rdn Rdn.Dp
def xma (seed n g:Int) (s:List Int) (x:List Int×Int) (k:Nat):List Int×Int:=(x.1.set (((k:Int)+seed) % n).toNat x.2,x.2+s[(((k:Int)+seed) % n).toNat]!+1+g)
def iV (s:List Int) (seed:Int) (k:Nat):List Int×Int:=(List.range k).foldl (xma seed s.length (seed / (50*s.length) % 40) s) (List.replicate s.length 0,1+seed / s.length % 50)
theorem xj7 (s:List Int) (seed:Int) (k:Nat):iV s seed (k+1)=xma seed s.length (seed / (50*s.length) % 40) s (iV s seed k) k:=by
 unfold iV;rw [List.range_succ,List.foldl_append];rfl
theorem xm9 (s:List Int) (seed:Int):∀k:Nat,(iV s seed k).1.length=s.length
 |0=>by simp [iV]
 |k+1=>by rw [xj7];simp [xma,xm9 s seed k]
structure MkOk (s:List Int) (seed:Int) (k:Nat):Prop where
 a0:1≤(iV s seed k).2
 a1:(iV s seed k).2≤51+73*k
 lay:∀j:Nat,j<k→0≤(iV s seed k).1[(((j:Int)+seed) % s.length).toNat]!∧(iV s seed k).1[(((j:Int)+seed) % s.length).toNat]!+s[(((j:Int)+seed) % s.length).toNat]!<(iV s seed k).2
 ord:∀i j:Nat,i<j→j<k→(iV s seed k).1[(((i:Int)+seed) % s.length).toNat]!+s[(((i:Int)+seed) % s.length).toNat]!<(iV s seed k).1[(((j:Int)+seed) % s.length).toNat]!
theorem yt7 {n:Nat} {seed:Int} {i j:Nat} (hij:i<j) (hj:j<n):(((i:Int)+seed) % n).toNat≠(((j:Int)+seed) % n).toNat:=by
 intro e;have h0:(0:Int)<n:=ω;have p1:=Int.emod_nonneg ((i:Int)+seed) (show(n:Int)≠0 by omega);have p2:=Int.emod_nonneg ((j:Int)+seed) (show(n:Int)≠0 by omega);have e1:((i:Int)+seed) % n=((j:Int)+seed) % n:=ω;have e2:=Int.emod_emod_of_dvd;have e3:((j:Int)-i) % n=0:=by
  have:=Int.emod_eq_emod_iff_emod_sub_eq_zero.1 e1.symm
  rwa [show(j:Int)+seed-(i+seed)=j-i by omega] at this
 rw [Int.emod_eq_of_lt ω ω] at e3;omega
theorem xr2 {s:List Int} (hs:oO s) {seed:Int} (h0:0≤seed):∀k:Nat,k≤s.length→MkOk s seed k
 |0,_=>by
  have e:(iV s seed 0).2=1+seed / s.length % 50:=rfl;refine⟨by rw [e];omega,by rw [e];omega,fun j hj=>by omega,fun i j _ hj=>by omega⟩
 |k+1,hk=>by
  obtain⟨a0,a1,lay,ord⟩:=xr2 hs h0 k ω;obtain⟨s1,s2,s3⟩:=hs;have hl:=xm9 s seed k;have hn:(0:Int)<s.length:=ω;have hr:∀j:Nat,(((j:Int)+seed) % s.length).toNat<s.length:=fun j=>by
   have p1:=Int.emod_nonneg ((j:Int)+seed) (show(s.length:Int)≠0 by omega);have p2:=Int.emod_lt_of_pos ((j:Int)+seed) hn;omega
  have hz:1≤s[(((k:Int)+seed) % s.length).toNat]!∧s[(((k:Int)+seed) % s.length).toNat]!≤32:=s1 _ (dJ (hr k));have e1:(iV s seed (k+1)).1=(iV s seed k).1.set (((k:Int)+seed) % s.length).toNat (iV s seed k).2:=by rw [xj7];rfl
  have e2:(iV s seed (k+1)).2=(iV s seed k).2+s[(((k:Int)+seed) % s.length).toNat]!+1+seed / (50*s.length) % 40:=by rw [xj7];rfl
  have at_:(iV s seed (k+1)).1[(((k:Int)+seed) % s.length).toNat]! =(iV s seed k).2:=by rw [e1];exact xf0 (by rw [hl];exact hr k) _
  have ne_:∀j:Nat,j<k→(iV s seed (k+1)).1[(((j:Int)+seed) % s.length).toNat]! =(iV s seed k).1[(((j:Int)+seed) % s.length).toNat]!:=fun j hj=>by
   rw [e1,List.getElem!_eq_getElem?_getD,List.getElem?_set_ne (yt7 hj ω).symm,←List.getElem!_eq_getElem?_getD]
  refine⟨by rw [e2];omega,by rw [e2];omega,fun j hj=>?_,fun i j hij hj=>?_⟩
  ·by_cases e:j=k
   ·subst e;rw [at_,e2];omega
   ·rw [ne_ j ω,e2]
    have:=lay j ω;omega
  ·by_cases e:j=k
   ·subst e
    rw [at_,ne_ i hij];exact(lay i hij).2
   ·rw [ne_ j ω,ne_ i ω]
    exact ord i j hij ω
theorem ycx {n:Nat} {seed:Int} {i:Nat} (hi:i<n):∃j:Nat,j<n∧(((j:Int)+seed) % n).toNat=i:=by
 have p1:=Int.emod_nonneg ((i:Int)-seed) (show(n:Int)≠0 by omega);have p2:=Int.emod_lt_of_pos ((i:Int)-seed) (show(0:Int)<n by omega);refine⟨(((i:Int)-seed) % n).toNat,ω,?_⟩;rw [Int.toNat_of_nonneg p1,Int.emod_add_emod,show(i:Int)-seed+seed=i by omega,Int.emod_eq_of_lt ω ω];omega
theorem yom {s:List Int} (hs:oO s) {seed:Int} (h0:0≤seed) (key:Int):jW ⟨(iV s seed s.length).1,key⟩ s:=by
 obtain⟨a0,a1,lay,ord⟩:=xr2 hs h0 s.length (Nat.le_refl _);have h4:=hs.2.2;refine⟨hs,xm9 s seed _,fun i hi=>?_⟩;obtain⟨x,hx,rfl⟩:=ycx (seed:=seed) hi;refine⟨(lay x hx).1,?_,fun j hj=>?_⟩
 ·have:=(lay x hx).2
  show(iV s seed s.length).1[_]!+_≤512;omega
 ·obtain⟨y,hy,rfl⟩:=ycx (n:=s.length) (seed:=seed) (i:=j) ω
  rcases Nat.lt_trichotomy x y with c|rfl|c
  ·exact .inl (ord x y c hy)
  ·exact absurd hj (Nat.lt_irrefl _)
  ·exact .inr (ord y x c hx)
def ldW (c:List Cell) (b:Int):List Int→List Cell
 |[]=>c
 |v::d=>ldW (c.set b.toNat ⟨c[b.toNat]!.tag,v⟩) (b+1) d
def xb2 (c:List Cell):List Int→List (List Int)→List Cell
 |b::bs,d::ds=>xb2 (ldW c b d) bs ds
 |_,_=>c
theorem xxk:∀{d:List Int} {c:List Cell} {b:Int},nX c→(∀v∈d,0≤v∧v≤65535)→0≤b→b+d.length≤c.length→nX (ldW c b d)∧(ldW c b d).length=c.length
 |[],c,b,h,_,_,_=>⟨h,rfl⟩
 |v::d,c,b,h,hv,h0,hb=>by
  rw [List.length_cons] at hb;have hk:b.toNat<c.length:=ω;have hc:=mG h hk;have hv0:=hv v ξ;have:=xxk (d:=d) (c:=c.set b.toNat ⟨c[b.toNat]!.tag,v⟩) (b:=b+1) (xmi h _ ⟨hc.1,hc.2.1,hv0.1,hv0.2⟩) (fun x hx=>hv x (by simp [hx])) ω (by rw [List.length_set];omega);rw [List.length_set] at this;exact this
theorem xxj:∀{ds:List (List Int)} {bs:List Int} {c:List Cell},nX c→(∀d∈ds,∀v∈d,0≤v∧v≤65535)→bs.length=ds.length→(∀i:Nat,i<ds.length→0≤bs[i]!∧bs[i]!+ds[i]!.length≤c.length)→nX (xb2 c bs ds)∧(xb2 c bs ds).length=c.length
 |[],bs,c,h,_,_,_=>by cases bs<;>exact⟨h,rfl⟩
 |d::ds,[],c,h,_,hl,_=>by simp at hl
 |d::ds,b::bs,c,h,hv,hl,hb=>by
  have h0:=hb 0 ξ;obtain⟨k1,k2⟩:=xxk (d:=d) (b:=b) h (hv d ξ) h0.1 h0.2;have:=xxj (ds:=ds) (bs:=bs) k1 (fun x hx=>hv x (by simp [hx])) (by simpa using hl) (fun i hi=>by
   have:=hb (i+1) (by simpa using hi);rw [k2];exact this)
  rw [k2] at this;exact this
def emptyL:List PLine:=List.replicate 4 ⟨-1,false,[]⟩
def xin (p:PProg) (l:PLay):PMem:=⟨xb2 (List.replicate 512 c0) l.bases p.data,emptyL⟩
def xhh (p:PProg) (l:PLay):PMach:=⟨l,xin p l,[{thr0 with state:=1},thr0,thr0,thr0]⟩
theorem yvm {p:PProg} {l:PLay} (hp:okProg p) (hl:jW l p.sizes) (hv:∀d∈p.data,∀v∈d,0≤v∧v≤65535):okMach p 0 (xhh p l):=by
 obtain⟨l1,l2,l3⟩:=id hl;have hd:=hp.dl;obtain⟨k1,k2⟩:=xxj (ds:=p.data) (bs:=l.bases) (c:=List.replicate 512 c0) (fun c hc=>by rw [(List.mem_replicate.1 hc).2];exact xdd) hv ω (fun i hi=>by
  have h1:=l3 i ω;have h2:=hp.dat i ω;rw [List.length_replicate];omega)
 refine⟨hp,hl,⟨by rw [←List.length_replicate (n:=512) (a:=c0)];exact k2,rfl,k1,fun i hi=>?_⟩,rfl,fun x hx=>?_⟩
 ·have:emptyL[i]! =⟨-1,false,[]⟩:=by
   rcases(by omega:i=0∨i=1∨i=2∨i=3) with rfl|rfl|rfl|rfl<;>rfl
  show lF i emptyL[i]!;rw [this];unfold lF;rw [if_pos rfl];exact⟨rfl,rfl⟩
 ·have z:=ywi (C:=0) (Int.le_refl 0)
  simp only [xhh,List.mem_cons,List.not_mem_nil,or_false] at hx;rcases hx with rfl|rfl|rfl|rfl
  ·obtain⟨a1,a2,a3,a4⟩:=z
   exact⟨a1,by show(0:Int)≤1;decide,by show(1:Int)≤4;decide,a4⟩
  ·exact z
  ·exact z
  ·exact z
section
variable {p:PProg} {m:PMach} {t:Nat} {x:PThr} {i:PInstr}
theorem yqi (hx:m.thr[t]! =x) (h:(p.code.length:Int)≤x.pc):dL p m t=(m.setT t (qH x 2),2):=by
 subst hx;unfold dL;exact if_pos h
variable (hx:m.thr[t]! =x) (hi:p.code[x.pc.toNat]! =i) (h:x.pc<p.code.length)
include hx hi h
theorem yq7 (o:i.op=0):dL p m t=(m.setT t (jM i x (x.pc+1)),-1):=by
 subst hx hi;unfold dL;dsimp only;rw [if_neg ω,if_pos o]
theorem yq8 (o:i.op=1):dL p m t=(m.setT t (jM i (iQ x i.a ⟨0,IntKind.u16.wrap i.imm⟩) (x.pc+1)),-1):=by
 subst hx hi;unfold dL;dsimp only;rw [if_neg ω,if_neg ω,if_pos o]
theorem yqd (o:i.op=2):dL p m t=(m.setT t (jM i (iQ x i.a x.regs[i.b.toNat]!) (x.pc+1)),-1):=by
 subst hx hi;unfold dL;dsimp only;rw [if_neg ω,if_neg ω,if_neg ω,if_pos o]
theorem yq9 (o:i.op=15):dL p m t=(m.setT t (jM i (iQ x i.a ⟨1,IntKind.u16.wrap m.lay.bases[i.imm.toNat]!⟩) (x.pc+1)),-1):=by
 subst hx hi;unfold dL;dsimp only;rw [if_neg ω,if_neg ω,if_neg ω,if_neg ω,if_pos o]
theorem yqa (o:i.op=16) {c:Cell×Int} (hc:lD m.lay p.sizes x.regs[i.b.toNat]! (IntKind.u16.wrap i.imm) false=c):dL p m t=if c.2≠0 then(m.setT t (qH x c.2),2) else({m with mem:=(xbh m.mem c.1.val).1,thr:=m.thr.set t (jM i (iQ x i.a (xbh m.mem c.1.val).2) (x.pc+1))},-1):=by
 subst hx hi;unfold dL;dsimp only;rw [if_neg ω,if_neg ω,if_neg ω,if_neg ω,if_neg ω,if_pos (.inl o),if_neg (show ¬_=(17:Int) by omega),hc,if_pos o]
theorem yqb (o:i.op=17) {c:Cell×Int} (hc:lD m.lay p.sizes x.regs[i.a.toNat]! (IntKind.u16.wrap i.imm) false=c):dL p m t=if c.2≠0 then(m.setT t (qH x c.2),2) else({m with mem:=xcf m.mem c.1.val x.regs[i.b.toNat]!,thr:=m.thr.set t (jM i x (x.pc+1))},-1):=by
 subst hx hi;unfold dL;dsimp only;rw [if_neg ω,if_neg ω,if_neg ω,if_neg ω,if_neg ω,if_pos (.inr o),if_pos o,hc,if_neg (show ¬_=(16:Int) by omega)]
theorem yqc (o:i.op=18):dL p m t=(m.setT t (jM i x i.imm),-1):=by
 subst hx hi;unfold dL;dsimp only;rw [if_neg ω,if_neg ω,if_neg ω,if_neg ω,if_neg ω,if_neg ω,if_pos o]
theorem ybg (o:i.op=19∨i.op=20):dL p m t=if x.regs[i.a.toNat]!.tag≠0 then(m.setT t (qH x 3),2) else(m.setT t (jM i x (if(x.regs[i.a.toNat]!.val=0)=(i.op=19) then i.imm else x.pc+1)),-1):=by
 subst hx hi;unfold dL;dsimp only;rw [if_neg ω,if_neg ω,if_neg ω,if_neg ω,if_neg ω,if_neg ω,if_neg ω,if_pos o]
theorem yqe (o:i.op=21):dL p m t=(m.setT t (jM i (iQ x i.a ⟨0,IntKind.u16.wrap (x.pc+1)⟩) i.imm),-1):=by
 subst hx hi;unfold dL;dsimp only;rw [if_neg ω,if_neg ω,if_neg ω,if_neg ω,if_neg ω,if_neg ω,if_neg ω,if_neg ω,if_pos o]
theorem yqf (o:i.op=22):dL p m t=if x.regs[i.a.toNat]!.tag≠0 then(m.setT t (qH x 3),2) else if x.regs[i.a.toNat]!.val>255 then(m.setT t (qH x 2),2) else(m.setT t (jM i x x.regs[i.a.toNat]!.val),-1):=by
 subst hx hi;unfold dL;dsimp only;rw [if_neg ω,if_neg ω,if_neg ω,if_neg ω,if_neg ω,if_neg ω,if_neg ω,if_neg ω,if_neg ω,if_pos o]
theorem yqh (o:i.op=24):dL p m t=if x.saved=-1 then(m.setT t (qH x 1),2) else(m.setT t (jM i {x with saved:=-1} x.saved),-1):=by
 subst hx hi;unfold dL;dsimp only;rw [if_neg ω,if_neg ω,if_neg ω,if_neg ω,if_neg ω,if_neg ω,if_neg ω,if_neg ω,if_neg ω,if_neg ω,if_pos o]
theorem yqg (o:i.op=23):dL p m t=(m.setT t {x with state:=2,pc:=x.pc+1},1):=by
 subst hx hi;unfold dL;dsimp only;rw [if_neg ω,if_neg ω,if_neg ω,if_neg ω,if_neg ω,if_neg ω,if_neg ω,if_neg ω,if_neg ω,if_neg ω,if_neg ω,if_pos o]
theorem yq4 (o:3≤i.op∧i.op≤14) {c:Cell×Int} (hc:cO m.lay p.sizes i.op x.regs[i.b.toNat]! x.regs[i.c.toNat]! =c):dL p m t=if c.2≠0 then(m.setT t (qH x c.2),2) else(m.setT t (jM i (iQ x i.a c.1) (x.pc+1)),-1):=by
 subst hx hi;unfold dL;dsimp only;rw [if_neg ω,if_neg ω,if_neg ω,if_neg ω,if_neg ω,if_neg ω,if_neg ω,if_neg ω,if_neg ω,if_neg ω,if_neg ω,if_neg ω,hc]
end
theorem xcy {i:PInstr} {x:PThr} {n:Int} (h:kW i.op):jM i x n={x with pc:=n,count:=x.count+1}:=by unfold jM;rw [if_pos h]
theorem xe7 {i:PInstr} {x:PThr} {n:Int} (h:¬kW i.op):jM i x n={x with pc:=n}:=by unfold jM;rw [if_neg h]
end Go.Proofs.YthmjocibdepahaaGreat
namespace Go.Proofs.YthmjocibdepahaaGreat
open Go Go.RowKit Rdn Rdn.Dp
def ya6:=aC 145
def xj1:=zcs 146
def xqt:=aC 141
def xlk:=aC 67
def xc0:=aC 74
def ynm:=aC 228
abbrev lU (q:Int×Int):V:=.agg [.int .i64 q.1,.int .i64 q.2]
theorem xU {s:List Int} (h:oO s) {k:Nat} (hk:k<s.length):1≤s[k]!∧s[k]!≤32:=h.1 _ (dJ hk)
theorem xt3 (s:List Int) (h:oO s):Fnc Tryz.prog 145 [.sl false 1 (bH s)] (fun x obs=>x=.bool true∧obs=[]):=by
 have h2:=h.2.1;have h3:=h.2.2;refine aI ya6 fun W S=>?_;refine bI [0,5,6] (fun p:{p:Nat // p≤s.length}=>[(7,.int .i64 p.1)]) (fun _=>[]) (fun p=>s.length-p.1) (⟨0,by simp⟩) 0 ?_;intro J hJ
 rintro⟨k,hk0⟩
 by_cases hlt:k<s.length
 ·have h4:=xU h hlt
  refine aA ?_;exact nP (hJ _ (⟨k+1,hlt⟩) ψ) hlt
 obtain rfl:k=s.length:=ω;refine aA ?_;exact aU ya6
theorem xl8 (s:List Int) (r o:Int):Fnc Tryz.prog 146 [.sl false 1 (bH s),lU (r,o)] (fun x obs=>x=.bool (decide (nG s r o))∧obs=[]):=by
 refine Fnc.wf fun hw=>?_;simp only [V.wfs,V.wf,lW,List.length_map] at hw;have hm:=hw.1.2;by_cases h1:0≤r∧r<s.length
 ·obtain⟨k,rfl⟩:∃k:Nat,r=k:=⟨r.toNat,ω⟩
  have hk:k<s.length:=ω;by_cases h2:0≤o∧o<s[k]!
  ·have hd:nG s k o:=⟨ω,ω,h2.1,by simpa using h2.2⟩
   rw [aN hd];clear hw;exact aZ xj1
  ·have hd:¬nG s k o:=fun h=>h2 ⟨h.2.2.1,by simpa using h.2.2.2⟩
   rw [aJ hd];by_cases h3:0≤o
   ·clear hw
    exact aZ xj1
   ·clear hw
    exact aZ xj1
 ·have hd:¬nG s r o:=fun h=>h1 ⟨h.1,h.2.1⟩
  rw [aJ hd];by_cases h3:0≤r
  ·clear hw
   exact aZ xj1
  ·clear hw
   exact aZ xj1
theorem xn0 {bs s:List Int} {k:Nat} (hk:k<s.length) (hl:bs.length=s.length) (a:Int):jR (bs.drop k) (s.drop k) k a=if bs[k]!≤a∧a<bs[k]!+s[k]! then some ((k:Int),a-bs[k]!) else jR (bs.drop (k+1)) (s.drop (k+1)) ((k+1:Nat):Int) a:=by
 rw [List.drop_eq_getElem_cons (show k<bs.length by omega),List.drop_eq_getElem_cons hk];simp only [jR];simp [hk,show k<bs.length by omega]
theorem xn1 {bs s:List Int} (hl:bs.length=s.length) (a:Int):jR (bs.drop s.length) (s.drop s.length) (s.length:Int) a=none:=by
 rw [List.drop_eq_nil_of_le ω,List.drop_length];simp only [jR]
theorem rG {l:PLay} {s:List Int} (h:jW l s) {k:Nat} (hk:k<s.length):0≤l.bases[k]!∧l.bases[k]!+s[k]!≤512∧1≤s[k]!∧s[k]!≤32:=by
 have h1:=h.2.2 k hk;have h2:=xU h.1 hk;exact⟨h1.1,h1.2.1,h2.1,h2.2⟩
theorem xef (l:PLay) (s:List Int) (a:Int) (h:jW l s) (q:Option (Int×Int)) (hq:jR l.bases s 0 a=q):Fnc Tryz.prog 141 [dQ false l,.sl false 1 (bH s),.int .i64 a] (fun x obs=>x=.tup [lU (q.getD (0,0)),.bool q.isSome]∧obs=[]):=by
 have hb:=h.2.1;have hs4:=h.1.2.2;refine aI xqt fun W S=>?_;refine bI [1,2,6,11,12] (fun p:{p:Nat // p≤s.length∧jR l.bases s 0 a=jR (l.bases.drop p) (s.drop p) p a}=>[(13,.int .i64 p.1)]) (fun _=>[⟨.box false 33,true,0,dQ false l⟩,⟨.box false 120,true,0,lU (0,0)⟩]) (fun p=>s.length-p.1) (⟨0,by simp,rfl⟩) 2 ?_;intro J hJ
 rintro⟨k,hk0,hk1⟩
 by_cases hlt:k<s.length
 ·have h4:=rG h hlt
  have hu:=xn0 hlt hb a;by_cases c:l.bases[k]!≤a∧a<l.bases[k]!+s[k]!
  ·rw [←hk1,hq,if_pos c] at hu
   subst hu;refine aA ?_;exact aU xqt
  ·rw [if_neg c] at hu
   by_cases c1:l.bases[k]!≤a
   ·refine aA ?_
    exact vW (hJ _ (⟨k+1,hlt,hk1.trans hu⟩) ψ) hlt
   ·refine aA ?_
    exact vW (hJ _ (⟨k+1,hlt,hk1.trans hu⟩) ψ) hlt
 obtain rfl:k=s.length:=ω;rw [xn1 hb,hq] at hk1;subst hk1;refine aA ?_;exact aU xqt
theorem xd6 {l:PLay} {s:List Int} (h:jW l s) {a:Int} {q:Int×Int} (hq:jR l.bases s 0 a=some q):nG s q.1 q.2∧0≤a∧a<512:=by
 have key:∀(n k:Nat),k+n=s.length→jR (l.bases.drop k) (s.drop k) k a=some q→nG s q.1 q.2∧0≤a∧a<512:=by
  intro n
  induction n with
  |zero=>intro k hk hr;rw [show k=s.length by omega,xn1 h.2.1] at hr;cases hr
  |succ n ih=>
   intro k hk hr;have hl:=rG h (k:=k) ω;rw [xn0 ω h.2.1] at hr;by_cases c:l.bases[k]!≤a∧a<l.bases[k]!+s[k]!
   ·rw [if_pos c] at hr
    injection hr with hr;subst hr
    refine⟨⟨by simp,by simp;omega,by(show 0≤a-l.bases[k]!);omega,?_⟩,ω,ω⟩;show a-l.bases[k]!<s[((k:Int)).toNat]!;rw [Int.toNat_natCast];omega
   ·rw [if_neg c] at hr
    exact ih (k+1) ω hr
 exact key s.length 0 ω hq
theorem xkc (l:PLay) (s:List Int) (c:Cell) (h:jW l s) (hc:iW c):Fnc Tryz.prog 67 [dQ false l,.sl false 1 (bH s),bC c] (fun x obs=>x=aS (jD l s c)∧obs=[]):=by
 obtain⟨t,v⟩:=c;obtain⟨h0,h1,h2,h3⟩:=hc;dsimp only at h0 h1 h2 h3;by_cases c0:t=0
 ·subst c0
  exact aZ xlk
 by_cases c2:t=2
 ·subst c2
  exact aZ xlk
 have ht:t=1:=ω;subst ht;cases hq:jR l.bases s 0 v with
 |none=>
  have hr:jD l s ⟨1,v⟩=⟨1,0,-1,v⟩:=by simp [jD,hq]
  have f:=xef l s v h _ hq;rw [hr];exact eY xlk f
 |some q=>
  obtain⟨r,o⟩:=q;have hr:jD l s ⟨1,v⟩=⟨1,0,r,o⟩:=by simp [jD,hq]
  have f:=xef l s v h _ hq;rw [hr];exact eY xlk f
theorem yrj (s:List Int) (x:Canon):decide (mJ s x)=if x.tag=0∨x.tag=2 then decide (x.region=0∧x.offset=0) else decide (x.tag=1∧x.val=0∧nG s x.region x.offset):=by
 unfold mJ;by_cases c:x.tag=0∨x.tag=2
 ·simp only [if_pos c]
 ·simp only [if_neg c]
theorem xms (s:List Int) (x:Canon):Fnc Tryz.prog 74 [.sl false 1 (bH s),aS x] (fun y obs=>y=.bool (decide (mJ s x))∧obs=[]):=by
 rw [yrj];obtain⟨t,v,r,o⟩:=x;dsimp only;by_cases c0:t=0
 ·subst c0
  rw [if_pos ξ];by_cases c1:r=0
  ·by_cases c2:o=0
   ·rw [aN ⟨c1,c2⟩]
    exact aZ xc0
   ·rw [aJ (fun q=>c2 q.2)]
    exact aZ xc0
  ·rw [aJ (fun q=>c1 q.1)]
   exact aZ xc0
 by_cases c2:t=2
 ·subst c2
  rw [if_pos ξ];by_cases c1:r=0
  ·by_cases c2:o=0
   ·rw [aN ⟨c1,c2⟩]
    exact aZ xc0
   ·rw [aJ (fun q=>c2 q.2)]
    exact aZ xc0
  ·rw [aJ (fun q=>c1 q.1)]
   exact aZ xc0
 rw [if_neg ω];by_cases c1:t=1
 ·subst c1
  by_cases c3:v=0
  ·have f:=xl8 s r o
   by_cases c4:nG s r o
   ·rw [aN c4] at f
    rw [aN ⟨rfl,c3,c4⟩];exact eY xc0 f
   ·rw [aJ c4] at f
    rw [aJ (fun q=>c4 q.2.2)];exact eY xc0 f
  ·rw [aJ (fun q=>c3 q.2.1)]
   exact aZ xc0
 ·rw [aJ (fun q=>c1 q.1)]
  exact aZ xc0
theorem yfr (l:PLay) (s:List Int) (r o:Int) (h:jW l s) (hi:nG s r o):Fnc Tryz.prog 228 [dQ false l,.sl false 1 (bH s),lU (r,o)] (fun x obs=>x=.tup [.int .i64 (l.bases[r.toNat]!+o),.int .i64 0]∧obs=[]):=by
 have f:=xl8 s r o;rw [aN hi] at f;have hb:=h.2.1;obtain⟨h0,h1,h2,h3⟩:=hi;obtain⟨k,rfl⟩:∃k:Nat,r=k:=⟨r.toNat,ω⟩;rw [Int.toNat_natCast] at h3⊢;have h4:=rG h (k:=k) ω;exact eY ynm f
def xza:=aC 130
def xz3:=aC 72
def xlx:=aC 76
theorem xrz {a:Int} (h0:0≤a) (n:Int) (hn:0<n):a.tdiv n=a / n∧0≤a / n∧a / n≤a:=by
 refine⟨Int.tdiv_eq_ediv_of_nonneg h0,Int.ediv_nonneg h0 ω,Int.ediv_le_self n h0⟩
theorem yco {a:Int} (h0:0≤a) (n:Int) (hn:0<n):a.tmod n=a % n∧0≤a % n∧a % n<n:=⟨Int.tmod_eq_emod_of_nonneg h0,Int.emod_nonneg a ω,Int.emod_lt_of_pos a hn⟩
def xj6 (s:List Int) (seed:Int):PLay:=⟨(iV s seed s.length).1,IntKind.u16.wrap (40503*seed)⟩
theorem xps (n:Nat):bH (List.replicate n 0)=List.replicate n (V.int .i64 0):=by simp [bH]
theorem yol (s:List Int) (seed:Int) (h:oO s) (h0:0≤seed) (h1:seed≤1073741824):Fnc Tryz.prog 130 [.sl false 1 (bH s),.int .i64 seed] (fun x obs=>x=.tup [dQ true (xj6 s seed),.int .i64 0]∧obs=[]):=by
 have f:=xt3 s h;have hs1:=h.2.1;have hs4:=h.2.2;have hn:(0:Int)<s.length:=ω;obtain⟨q1,q2,q3⟩:=xrz h0 s.length hn;obtain⟨q4,q5,q6⟩:=xrz h0 (50*s.length) ω;refine iR xza f fun W S=>?_;refine gY [0,1,4,6,7,36] (fun p:{p:Nat // p≤s.length}=>[(8,.int .i64 (iV s seed p.1).2),(37,.int .i64 p.1)]) (fun p=>[⟨.box false 33,true,0,.agg [.nilS,.int .u16 0]⟩,⟨.row 3,true,0,.arr 1 (bH (iV s seed p.1).1)⟩,⟨.box false 33,true,0,.agg [.own 1 0,.int .u16 (40503*seed % 65536)]⟩]) (fun p=>s.length-p.1) (⟨0,by simp⟩) 3 τ ?_ (by first|rfl|(simp only [go_sem];done)|(simp only [go_sem];simp [iV,xps];done)) ξ φ φ (by first|rfl|(simp only [go_sem];done)|(simp only [iV,xps];(try simp only [go_sem]);first|done|rfl)) ?_
 ·(simp only [go_sem];(try simp [iV,xps]);done)
 intro J hJ
 rintro⟨k,hk0⟩
 by_cases hlt:k<s.length
 ·have hm:=xr2 h h0 k ω
  have ha0:=hm.a0;have ha1:=hm.a1;have hle:=xm9 s seed k;obtain⟨r1,r2,r3⟩:=yco (a:=(k:Int)+seed) ω s.length hn;have hz:=xU h (k:=(((k:Int)+seed) % s.length).toNat) ω;have e1:(iV s seed (k+1)).1=(iV s seed k).1.set (((k:Int)+seed) % s.length).toNat (iV s seed k).2:=by rw [xj7];rfl
  have e2:(iV s seed (k+1)).2=(iV s seed k).2+(s[(((k:Int)+seed) % s.length).toNat]!+1+seed / (50*s.length) % 40):=by rw [xj7];simp only [xma];omega
  have e3:bH ((iV s seed k).1.set (((k:Int)+seed) % s.length).toNat (iV s seed k).2)=(bH (iV s seed k).1).set (((k:Int)+seed) % s.length).toNat (.int .i64 (iV s seed k).2):=List.map_set;refine aA ?_;exact zn3 (hJ _ (⟨k+1,hlt⟩) ψ) (And.intro hlt (And.intro e1 (And.intro e2 (e3))))
 obtain rfl:k=s.length:=ω;refine aA ?_;exact aU xza
theorem xfe (l:PLay) (s:List Int) (x:Canon) (h:jW l s):Fnc Tryz.prog 76 [dQ false l,.sl false 1 (bH s),aS x] (fun y obs=>y=.tup [bC (iD l s x).1,.int .i64 (iD l s x).2]∧obs=[]):=by
 have f:=xms s x;have hb:=h.2.1;by_cases c:mJ s x;rotate_left
 ·rw [aJ c] at f
  have hr:iD l s x=(⟨0,0⟩,1):=by unfold iD;rw [if_pos c]
  rw [hr];exact eY xlx f
 rw [aN c] at f;obtain⟨t,v,r,o⟩:=x;by_cases c0:t=0
 ·subst c0
  have hr:iD l s ⟨0,v,r,o⟩=(⟨0,v⟩,0):=by unfold iD;rw [if_neg (not_not_intro c),if_pos rfl]
  rw [hr];exact eY xlx f
 by_cases c2:t=2
 ·subst c2
  have hr:iD l s ⟨2,v,r,o⟩=(⟨2,IntKind.u16.wrap (v+l.key)⟩,0):=by unfold iD;rw [if_neg (not_not_intro c),if_neg ξ,if_pos rfl]
  rw [hr];exact eY xlx f
 have hr:iD l s ⟨t,v,r,o⟩=(⟨1,IntKind.u16.wrap (l.bases[r.toNat]!+o)⟩,0):=by unfold iD;rw [if_neg (not_not_intro c),if_neg c0,if_neg c2]
 rw [hr];unfold mJ at c;rw [if_neg (by simp [c0,c2])] at c;obtain⟨c3,c4,i0,i1,i2,i3⟩:=c;dsimp only at c3 c4 i0 i1 i2 i3;obtain⟨k,rfl⟩:∃k:Nat,r=k:=⟨r.toNat,ω⟩;rw [Int.toNat_natCast] at i3⊢;have h4:=rG h (k:=k) ω;exact eY xlx f
theorem xlb (l:PLay) (s:List Int) (h:jW l s):Fnc Tryz.prog 72 [dQ false l,.sl false 1 (bH s)] (fun x obs=>x=.bool true∧obs=[]):=by
 have f:=xt3 s h.1;have hb:=h.2.1;have hs4:=h.1.2.2;refine iR xz3 f fun W S=>?_;refine bI [1,2,21,22] (fun p:{p:Nat // p≤s.length}=>[(23,.int .i64 p.1)]) (fun _=>[⟨.box false 33,true,0,dQ false l⟩]) (fun p=>s.length-p.1) (⟨0,by simp⟩) 1 ?_;intro J hJ
 rintro⟨k,hk0⟩
 by_cases hlt:k<s.length
 ·have h4:=rG h hlt
  have hJ0:=hJ;refine aA ?_;refine bI [1,2,5,6,21,22,23,42,43] (fun p:{p:Nat // p≤k}=>[(44,.int .i64 p.1)]) (fun _=>[⟨.box false 33,true,0,dQ false l⟩]) (fun p=>k-p.1) (⟨0,by simp⟩) 1 ?_;intro J hJ
  rintro⟨j,hj0⟩
  by_cases hlj:j<k
  ·have h5:=rG h (k:=j) ω
   have h6:=(h.2.2 k hlt).2.2 j hlj;have hg:(List.take k (bH l.bases)).getD j V.junk=.int .i64 l.bases[j]!:=by
    simp [bH,List.getD_eq_getElem?_getD,List.getElem?_take,hlj,show j<l.bases.length by omega]
   by_cases c:l.bases[j]!≤l.bases[k]!+s[k]!
   ·refine aY hg ?_
    exact jH (hJ _ (⟨j+1,hlj⟩) ψ) hlj
   ·refine aY hg ?_
    exact jH (hJ _ (⟨j+1,hlj⟩) ψ) hlj
  ·have hJ:=hJ0
   refine aA ?_;exact jH (hJ _ (⟨k+1,hlt⟩) ψ) hlt
 obtain rfl:k=s.length:=ω;refine aA ?_;exact aU xz3
def xlp:=aC 233
def xa4:=aC 214
def xlh:=aC 235
def wI:=aC 234
def xj5:=aC 198
theorem xpi (b:Bool):Fnc Tryz.prog 233 [.bool b] (fun x obs=>x=bC (vK b)∧obs=[]):=by
 cases b with
 |true=>
  refine aI xlp fun W S=>?_;refine ret xlp [] ?_;(first|(simp only [go_sem];done)|(simp only [go_sem];((try dsimp only);(repeat' (refine And.intro ?_ ?_))<;>first|with_reducible rfl|(simp only [go_sem];done)|(simp only [go_sem];rfl)|(simp only [go_sem,vK];done)|(simp only [vK];(try simp only [go_sem]);first|done|rfl)|(simp only [go_sem];simp [vK];done)|(simp [vK];done)|rfl)))
 |false=>
  refine aI xlp fun W S=>?_;refine ret xlp [] ?_;(first|(simp only [go_sem];done)|(simp only [go_sem];((try dsimp only);(repeat' (refine And.intro ?_ ?_))<;>first|with_reducible rfl|(simp only [go_sem];done)|(simp only [go_sem];rfl)|(simp only [go_sem,vK,c0];done)|(simp only [vK,c0];(try simp only [go_sem]);first|done|rfl)|(simp only [go_sem];simp [vK,c0];done)|(simp [vK,c0];done)|rfl)))
theorem xja (l:PLay) (s:List Int) (p:Cell) (n:Int) (back:Bool) (h:jW l s) (hp:iW p) (hn:0≤n∧n≤65535):Fnc Tryz.prog 214 [dQ false l,.sl false 1 (bH s),bC p,.int .u16 n,.bool back] (fun x obs=>x=.tup [bC (lD l s p n back).1,.int .i64 (lD l s p n back).2]∧obs=[]):=by
 obtain⟨t,v⟩:=p;have hb:=h.2.1;obtain⟨p0,p1,p2,p3⟩:=hp;dsimp only at p0 p1 p2 p3;by_cases ht:t=1;rotate_left
 ·have hr:lD l s ⟨t,v⟩ n back=(c0,3):=if_pos ht
  rw [hr];refine aI xa4 fun W S=>?_;exact aX xa4 c0.eq_1
 subst ht;cases hq:jR l.bases s 0 v with
 |none=>
  have hr:lD l s ⟨1,v⟩ n back=(c0,4):=by simp [lD,hq]
  have f:=xef l s v h _ hq;dsimp only [Option.getD,Option.isSome,lU] at f;rw [hr];refine iR xa4 f fun W S=>?_;exact aX xa4 c0.eq_1
 |some q=>
  obtain⟨r,o⟩:=q;have hr:lD l s ⟨1,v⟩ n back=if nG s r (qA back o n) then(⟨1,IntKind.u16.wrap (l.bases[r.toNat]!+(qA back o n))⟩,0) else(c0,4):=by simp [lD,hq]
  have f:=xef l s v h _ hq;dsimp only [Option.getD,Option.isSome,lU] at f;have hi:=(xd6 h hq).1;obtain⟨i0,i1,i2,i3⟩:=hi;dsimp only at i0 i1 i2 i3;obtain⟨k,rfl⟩:∃k:Nat,r=k:=⟨r.toNat,ω⟩;rw [Int.toNat_natCast] at i3 hr;have h4:=rG h (k:=k) ω;have g:=xl8 s k (qA back o n);by_cases c:nG s k (qA back o n)
  ·rw [if_pos c] at hr
   rw [aN c] at g;obtain⟨j0,j1,j2,j3⟩:=c;rw [Int.toNat_natCast] at j3;rw [hr];cases back with
   |true=>
    simp only [qA,if_true] at g j2 j3;rw [show(⟨1,IntKind.u16.wrap (l.bases[k]!+qA true o n)⟩:Cell)=⟨1,l.bases[k]!+(o-n)⟩ by simp only [qA,if_true];rw [uD,dU ω ω]];refine qK xa4 f g fun W S=>?_;refine ret xa4 [] ?_;(first|(simp only [go_sem];done)|(simp only [go_sem];((try dsimp only);(repeat' (refine And.intro ?_ ?_))<;>first|with_reducible rfl|(simp only [go_sem];done)|(simp only [go_sem];rfl)|(simp only [go_sem,qA];done)|(simp only [qA];(try simp only [go_sem]);first|done|rfl)|(simp only [go_sem];simp [qA];done)|(simp [qA];done)|rfl)))
   |false=>
    simp only [qA,Bool.false_eq_true,if_false] at g j2 j3;rw [show(⟨1,IntKind.u16.wrap (l.bases[k]!+qA false o n)⟩:Cell)=⟨1,l.bases[k]!+(o+n)⟩ by simp only [qA,Bool.false_eq_true,if_false];rw [uD,dU ω ω]];refine qK xa4 f g fun W S=>?_;refine ret xa4 [] ?_;(first|(simp only [go_sem];done)|(simp only [go_sem];((try dsimp only);(repeat' (refine And.intro ?_ ?_))<;>first|with_reducible rfl|(simp only [go_sem];done)|(simp only [go_sem];rfl)|(simp only [go_sem,qA];done)|(simp only [qA];(try simp only [go_sem]);first|done|rfl)|(simp only [go_sem];simp [qA];done)|(simp [qA];done)|rfl)))
  ·rw [if_neg c] at hr
   rw [aJ c] at g;rw [hr];cases back with
   |true=>
    simp only [qA,if_true] at g;refine qK xa4 f g fun W S=>?_;exact aX xa4 c0.eq_1
   |false=>
    simp only [qA,Bool.false_eq_true,if_false] at g;refine qK xa4 f g fun W S=>?_;exact aX xa4 c0.eq_1
theorem yxr (l:PLay) (s:List Int) (p:Cell) (n:Int) (h:jW l s) (hp:iW p):Fnc Tryz.prog 198 [dQ false l,.sl false 1 (bH s),bC p,.int .i64 n] (fun x obs=>x=.tup [.int .i64 (yA l s p n).1,.int .i64 (yA l s p n).2]∧obs=[]):=by
 obtain⟨t,v⟩:=p;have hb:=h.2.1;obtain⟨p0,p1,p2,p3⟩:=hp;dsimp only at p0 p1 p2 p3;by_cases ht:t=1;rotate_left
 ·have hr:yA l s ⟨t,v⟩ n=(0,3):=if_pos ht
  rw [hr];exact aZ xj5
 subst ht;cases hq:jR l.bases s 0 v with
 |none=>
  have hr:yA l s ⟨1,v⟩ n=(0,4):=by simp [yA,hq]
  have f:=xef l s v h _ hq;dsimp only [Option.getD,Option.isSome,lU] at f;rw [hr];exact eY xj5 f
 |some q=>
  obtain⟨r,o⟩:=q;have hr:yA l s ⟨1,v⟩ n=if n<0∨n>s[r.toNat]!-o then(0,4) else(v,0):=by simp [yA,hq]
  have f:=xef l s v h _ hq;dsimp only [Option.getD,Option.isSome,lU] at f;have hi:=(xd6 h hq).1;obtain⟨i0,i1,i2,i3⟩:=hi;dsimp only at i0 i1 i2 i3;obtain⟨k,rfl⟩:∃k:Nat,r=k:=⟨r.toNat,ω⟩;rw [Int.toNat_natCast] at i3 hr;have h4:=rG h (k:=k) ω;by_cases c:n<0
  ·rw [if_pos (Or.inl c)] at hr
   rw [hr];exact eY xj5 f
  by_cases c2:n>s[k]!-o
  ·rw [if_pos (Or.inr c2)] at hr
   rw [hr];exact eY xj5 f
  ·rw [if_neg ω] at hr
   rw [hr];exact eY xj5 f
theorem ypp (op b c:Int) (h:3≤op∧op≤13) (hb:0≤b∧b≤65535) (hc:0≤c∧c≤65535):Fnc Tryz.prog 234 [.int .i64 op,.int .u16 b,.int .u16 c] (fun x obs=>x=.tup [bC (qP op b c).1,.int .i64 (qP op b c).2]∧obs=[]):=by
 have hop:op=3∨op=4∨op=5∨op=8∨op=9∨op=10∨op=6∨op=7∨op=11∨op=12∨op=13:=ω;rcases hop with rfl|rfl|rfl|rfl|rfl|rfl|rfl|rfl|rfl|rfl|rfl<;>clear h
 ·rw [show qP 3 b c=(⟨0,IntKind.u16.wrap (b+c)⟩,0) from rfl]
  exact aZ wI
 ·rw [show qP 4 b c=(⟨0,IntKind.u16.wrap (b-c)⟩,0) from rfl]
  exact aZ wI
 ·rw [show qP 5 b c=(⟨0,IntKind.u16.wrap (b*c)⟩,0) from rfl]
  exact aZ wI
 ·rw [show qP 8 b c=(⟨0,xhr .u16 b c⟩,0) from rfl]
  exact aZ wI
 ·rw [show qP 9 b c=(⟨0,bor .u16 b c⟩,0) from rfl]
  exact aZ wI
 ·rw [show qP 10 b c=(⟨0,zN .u16 b c⟩,0) from rfl]
  exact aZ wI
 ·by_cases c1:c=0
  ·subst c1
   rw [show qP 6 b 0=(c0,5) from rfl];refine aI wI fun W S=>?_;exact aX wI c0.eq_1
  ·obtain⟨q1,q2,q3⟩:=xrz hb.1 c ω
   have hr:qP 6 b c=(if c=0 then(c0,5) else(⟨0,IntKind.u16.wrap (b.tdiv c)⟩,0)):=rfl;rw [hr,if_neg c1,q1,uD,dU ω ω];exact aZ wI
 ·by_cases c1:c=0
  ·subst c1
   rw [show qP 7 b 0=(c0,5) from rfl];refine aI wI fun W S=>?_;exact aX wI c0.eq_1
  ·obtain⟨q1,q2,q3⟩:=yco hb.1 c ω
   have hr:qP 7 b c=(if c=0 then(c0,5) else(⟨0,b.tmod c⟩,0)):=rfl;rw [hr,if_neg c1,q1];exact aZ wI
 ·rw [show qP 11 b c=(⟨0,IntKind.u16.wrap (b*2 ^ min (c.tmod 16).toNat 16)⟩,0) from rfl]
  exact aZ wI
 ·rw [show qP 12 b c=(⟨0,b.fdiv (2 ^ min (c.tmod 16).toNat 16)⟩,0) from rfl]
  exact aZ wI
 ·rw [show qP 13 b c=(vK (decide (b<c)),0) from rfl]
  have f:=xpi (decide (b<c));exact eY wI f
theorem xdk (l:PLay) (s:List Int) (b c:Cell) (h:jW l s) (hb:iW b) (hc:iW c) (q1 q2:Option (Int×Int)) (h1:jR l.bases s 0 b.val=q1) (h2:jR l.bases s 0 c.val=q2):Fnc Tryz.prog 235 [dQ false l,.sl false 1 (bH s),bC b,bC c] (fun x obs=>x=.tup [lU (q1.getD (0,0)),lU (q2.getD (0,0)),.bool (q1.isSome && q2.isSome && decide ((q1.getD (0,0)).1=(q2.getD (0,0)).1))]∧obs=[]):=by
 obtain⟨t,v⟩:=b;obtain⟨t2,w⟩:=c;obtain⟨-,-,p2,p3⟩:=hb;obtain⟨-,-,p4,p5⟩:=hc;dsimp only at p2 p3 p4 p5 h1 h2;have f:=xef l s v h _ h1;have g:=xef l s w h _ h2;cases q1 with
 |none=>
  dsimp only [Option.getD,Option.isSome,lU] at f g⊢;exact zG2 xlh f g
 |some q1=>
  cases q2 with
  |none=>
   dsimp only [Option.getD,Option.isSome,lU] at f g⊢;exact zG2 xlh f g
  |some q2=>
   dsimp only [Option.getD,Option.isSome,lU] at f g⊢;by_cases e:q1.1=q2.1
   ·rw [aN e]
    exact zG2 xlh f g
   ·rw [aJ e]
    exact zG2 xlh f g
end Go.Proofs.YthmjocibdepahaaGreat
