import Derived.Test.YthmjocibdepahaaGreatA52
import Derived.Test.YthmjocibdepahaaGreatA47
set_option linter.defProp false
set_option linter.unusedSimpArgs false
set_option linter.unusedVariables false
set_option maxHeartbeats 64000000
set_option maxRecDepth 100000
namespace Go.Proofs.YthmjocibdepahaaGreat.Tp
open Go Go.RowKit Rdn Rdn.Dp
def yP:=aC 14
def xiu:=aC 43
theorem xks (a b:List Canon):Fnc Tryz.prog 43 [.sl false 4 (a.map aS),.sl false 4 (b.map aS)] (fun x obs=>x=.bool (decide (a=b))∧obs=[]):=by
 refine Fnc.wf fun hw=>?_;simp only [V.wfs,V.wf,lW,List.length_map] at hw;have hm:=hw.1.2;have hm':=hw.2.1.2;by_cases hl:a.length=b.length
 ·skip
  refine aI xiu fun W S=>?_;refine bI [0,1,12] (fun p:{p:Nat // p≤a.length∧a.take p=b.take p}=>[(13,.int .i64 p.1)]) (fun _=>[]) (fun p=>a.length-p.1) (⟨0,by simp⟩) 0 ?_;intro J hJ
  rintro⟨k,hk0,hk1⟩
  by_cases hlt:k<a.length
  ·by_cases e:a[k]! =b[k]!
   ·skip
    refine aA ?_;exact nP (hJ _ (⟨k+1,hlt,by rw [jG hlt,jG ω,hk1,e]⟩) ψ) hlt
   ·have hne:a≠b:=fun h=>e (xem h k)
    refine aA ?_;refine ret xiu [] ?_;(first|(simp only [go_sem];done)|(simp only [go_sem];exact⟨rfl,rfl⟩))
  ·have hab:=xeu ω ω hk1
   refine aA ?_;refine ret xiu [] ?_;(first|(simp only [go_sem];done)|(simp only [go_sem];exact⟨rfl,rfl⟩))
 ·have hne:a≠b:=fun h=>hl (by rw [h])
  refine aI xiu fun W S=>?_;refine ret xiu [] ?_;(first|(simp only [go_sem];done)|(simp only [go_sem];exact⟨rfl,rfl⟩))
theorem pequal_fn (a b:Page):Fnc Tryz.prog 14 [pgV false a,pgV false b] (fun x obs=>x=.bool (decide (a=b))∧obs=[]):=by
 obtain⟨⟨r1,i1⟩,cs1,⟨a1,a2,a3,a4,a5,a6,a7,rs1⟩⟩:=a;obtain⟨⟨r2,i2⟩,cs2,⟨b1,b2,b3,b4,b5,b6,b7,rs2⟩⟩:=b;refine Fnc.wf fun hw=>?_;simp only [V.wfs,V.wf,lW,List.length_map] at hw;refine aI yP fun W S=>?_;by_cases c0:¬r1=r2
 ·have hr:=aJ (show ¬((⟨⟨r1,i1⟩,cs1,⟨a1,a2,a3,a4,a5,a6,a7,rs1⟩⟩:Page)=⟨⟨r2,i2⟩,cs2,⟨b1,b2,b3,b4,b5,b6,b7,rs2⟩⟩) from fun h=>by simp only [Page.mk.injEq,PageID.mk.injEq,View.mk.injEq] at h;exact c0 h.1.1)
  repeat(first|(simp only [Bool.false_and];try simp only [go_sem])|refine And.intro ω ?_|refine And.intro rfl ?_|refine gJ rfl rfl ?_|refine bY ?_|refine dI κ ?_|(simp (disch:=omega) only [fJ,Nat.min_eq_left,Nat.min_eq_right,if_pos,if_neg,fF,bW,dU,fH,fM,fK,aN,aJ,dB,dA,dP,dO,Int.toNat_natCast];try simp only [go_sem])|(refine dR rfl ?_ ?_;·(simp<;>omega))|(refine dZ rfl ?_ ?_;·(simp<;>omega))|((first|refine fQ ?_|refine gK rfl ?_|refine mZ rfl ?_|refine jJ aT rfl κ ?_|refine jK aT rfl κ ?_|refine jL aT rfl κ ?_);simp only [go_sem]))
  exact aX yP hr
 have c0:=Decidable.not_not.1 c0;by_cases c1:¬i1=i2
 ·have hr:=aJ (show ¬((⟨⟨r1,i1⟩,cs1,⟨a1,a2,a3,a4,a5,a6,a7,rs1⟩⟩:Page)=⟨⟨r2,i2⟩,cs2,⟨b1,b2,b3,b4,b5,b6,b7,rs2⟩⟩) from fun h=>by simp only [Page.mk.injEq,PageID.mk.injEq,View.mk.injEq] at h;exact c1 h.1.2)
  repeat(first|(simp only [Bool.true_and];try simp only [go_sem])|refine And.intro ω ?_|refine And.intro rfl ?_|refine gJ rfl rfl ?_|refine bY ?_|refine dI κ ?_|(simp (disch:=omega) only [fJ,Nat.min_eq_left,Nat.min_eq_right,if_pos,if_neg,fF,bW,dU,fH,fM,fK,aN,aJ,dB,dA,dP,dO,Int.toNat_natCast];try simp only [go_sem])|(refine dR rfl ?_ ?_;·(simp<;>omega))|(refine dZ rfl ?_ ?_;·(simp<;>omega))|((first|refine fQ ?_|refine gK rfl ?_|refine mZ rfl ?_|refine jJ aT rfl κ ?_|refine jK aT rfl κ ?_|refine jL aT rfl κ ?_);simp only [go_sem]))
  exact aX yP hr
 have c1:=Decidable.not_not.1 c1
 repeat(first|(simp only [Bool.true_and];try simp only [go_sem])|refine And.intro ω ?_|refine And.intro rfl ?_|refine gJ rfl rfl ?_|refine bY ?_|refine dI κ ?_|(simp (disch:=omega) only [fJ,Nat.min_eq_left,Nat.min_eq_right,if_pos,if_neg,fF,bW,dU,fH,fM,fK,aN,aJ,dB,dA,dP,dO,Int.toNat_natCast];try simp only [go_sem])|(refine dR rfl ?_ ?_;·(simp<;>omega))|(refine dZ rfl ?_ ?_;·(simp<;>omega))|((first|refine fQ ?_|refine gK rfl ?_|refine mZ rfl ?_|refine jJ aT rfl κ ?_|refine jK aT rfl κ ?_|refine jL aT rfl κ ?_);simp only [go_sem]))
 by_cases c2:¬cs1=cs2
 ·have hr:=aJ (show ¬((⟨⟨r1,i1⟩,cs1,⟨a1,a2,a3,a4,a5,a6,a7,rs1⟩⟩:Page)=⟨⟨r2,i2⟩,cs2,⟨b1,b2,b3,b4,b5,b6,b7,rs2⟩⟩) from fun h=>by simp only [Page.mk.injEq,PageID.mk.injEq,View.mk.injEq] at h;exact c2 h.2.1)
  have hE:=xks cs1 cs2;rw [aJ c2] at hE;refine aF (hE) ?_;exact aX yP hr
 have c2:=Decidable.not_not.1 c2;subst c2;have hE:=xks cs1 cs1;rw [aN rfl] at hE;refine aF (hE) ?_;by_cases c3:¬a1=b1
 ·have hr:=aJ (show ¬((⟨⟨r1,i1⟩,cs1,⟨a1,a2,a3,a4,a5,a6,a7,rs1⟩⟩:Page)=⟨⟨r2,i2⟩,cs1,⟨b1,b2,b3,b4,b5,b6,b7,rs2⟩⟩) from fun h=>by simp only [Page.mk.injEq,PageID.mk.injEq,View.mk.injEq] at h;exact c3 h.2.2.1)
  refine aA ?_;exact aX yP hr
 have c3:=Decidable.not_not.1 c3;refine aA ?_;by_cases c4:¬a2=b2
 ·have hr:=aJ (show ¬((⟨⟨r1,i1⟩,cs1,⟨a1,a2,a3,a4,a5,a6,a7,rs1⟩⟩:Page)=⟨⟨r2,i2⟩,cs1,⟨b1,b2,b3,b4,b5,b6,b7,rs2⟩⟩) from fun h=>by simp only [Page.mk.injEq,PageID.mk.injEq,View.mk.injEq] at h;exact c4 h.2.2.2.1)
  refine aA ?_;exact aX yP hr
 have c4:=Decidable.not_not.1 c4;refine aA ?_;by_cases c5:¬a3=b3
 ·have hr:=aJ (show ¬((⟨⟨r1,i1⟩,cs1,⟨a1,a2,a3,a4,a5,a6,a7,rs1⟩⟩:Page)=⟨⟨r2,i2⟩,cs1,⟨b1,b2,b3,b4,b5,b6,b7,rs2⟩⟩) from fun h=>by simp only [Page.mk.injEq,PageID.mk.injEq,View.mk.injEq] at h;exact c5 h.2.2.2.2.1)
  refine aA ?_;exact aX yP hr
 have c5:=Decidable.not_not.1 c5;refine aA ?_;by_cases c6:¬a4=b4
 ·have hr:=aJ (show ¬((⟨⟨r1,i1⟩,cs1,⟨a1,a2,a3,a4,a5,a6,a7,rs1⟩⟩:Page)=⟨⟨r2,i2⟩,cs1,⟨b1,b2,b3,b4,b5,b6,b7,rs2⟩⟩) from fun h=>by simp only [Page.mk.injEq,PageID.mk.injEq,View.mk.injEq] at h;exact c6 h.2.2.2.2.2.1)
  refine aA ?_;exact aX yP hr
 have c6:=Decidable.not_not.1 c6;refine aA ?_;by_cases c7:¬a5=b5
 ·have hr:=aJ (show ¬((⟨⟨r1,i1⟩,cs1,⟨a1,a2,a3,a4,a5,a6,a7,rs1⟩⟩:Page)=⟨⟨r2,i2⟩,cs1,⟨b1,b2,b3,b4,b5,b6,b7,rs2⟩⟩) from fun h=>by simp only [Page.mk.injEq,PageID.mk.injEq,View.mk.injEq] at h;exact c7 h.2.2.2.2.2.2.1)
  refine aA ?_;exact aX yP hr
 have c7:=Decidable.not_not.1 c7;refine aA ?_;by_cases c8:¬a6=b6
 ·have hr:=aJ (show ¬((⟨⟨r1,i1⟩,cs1,⟨a1,a2,a3,a4,a5,a6,a7,rs1⟩⟩:Page)=⟨⟨r2,i2⟩,cs1,⟨b1,b2,b3,b4,b5,b6,b7,rs2⟩⟩) from fun h=>by simp only [Page.mk.injEq,PageID.mk.injEq,View.mk.injEq] at h;exact c8 h.2.2.2.2.2.2.2.1)
  refine aA ?_;exact aX yP hr
 have c8:=Decidable.not_not.1 c8;refine aA ?_;by_cases c9:¬a7=b7
 ·have hr:=aJ (show ¬((⟨⟨r1,i1⟩,cs1,⟨a1,a2,a3,a4,a5,a6,a7,rs1⟩⟩:Page)=⟨⟨r2,i2⟩,cs1,⟨b1,b2,b3,b4,b5,b6,b7,rs2⟩⟩) from fun h=>by simp only [Page.mk.injEq,PageID.mk.injEq,View.mk.injEq] at h;exact c9 h.2.2.2.2.2.2.2.2.1)
  refine aA ?_;exact aX yP hr
 have c9:=Decidable.not_not.1 c9;refine aA ?_;by_cases c10:¬rs1=rs2
 ·have hr:=aJ (show ¬((⟨⟨r1,i1⟩,cs1,⟨a1,a2,a3,a4,a5,a6,a7,rs1⟩⟩:Page)=⟨⟨r2,i2⟩,cs1,⟨b1,b2,b3,b4,b5,b6,b7,rs2⟩⟩) from fun h=>by simp only [Page.mk.injEq,PageID.mk.injEq,View.mk.injEq] at h;exact c10 h.2.2.2.2.2.2.2.2.2)
  have hE:=xks rs1 rs2;rw [aJ c10] at hE;refine aF (hE) ?_;exact aX yP hr
 have c10:=Decidable.not_not.1 c10;subst c10;have hE:=xks rs1 rs1;rw [aN rfl] at hE;refine aF (hE) ?_;subst c0 c1 c3 c4 c5 c6 c7 c8 c9;have hr:decide ((⟨⟨r1,i1⟩,cs1,⟨a1,a2,a3,a4,a5,a6,a7,rs1⟩⟩:Page)=⟨⟨r1,i1⟩,cs1,⟨a1,a2,a3,a4,a5,a6,a7,rs1⟩⟩)=true:=aN rfl;exact aX yP hr
attribute [local go_sem] List.length_set
theorem ygl (l:List Int) (h1:1≤l.length) (h2:l.length≤20):Fnc Tryz.prog 37 [zT l] (fun x obs=>x=.tup [.agg [.sl true 1 ((iG l).map dtV)],.int .i64 0]∧obs=[]):=by
 refine aI xdz fun W S=>?_;refine kV (xus l ω) ?_;refine aA ?_;refine gY [2,4] (fun p:{p:Nat // p≤dep l.length}=>[(5,dtV (dK l p.1))]) (fun p=>[⟨.box false 54,true,0,.agg [.nilS]⟩,⟨.row 130,true,p.1,.arr 1 ((xap l p.1).map dtV)⟩,⟨.box false 54,true,0,.agg [.own 1 p.1]⟩]) (fun p=>dep l.length-p.1) (⟨0,by simp⟩) 3 τ ?_ (by first|rfl|(simp only [go_sem];done)|(simp only [go_sem];simp [dK];done)) ξ φ φ (by first|rfl|(simp only [go_sem];done)|(simp only [dK];(try simp only [go_sem]);first|done|rfl)) ?_
 ·(simp only [go_sem];(try simp [dK]);done)
 intro J hJ
 rintro⟨k,hk0⟩
 have hll:=xct l k;have hd:=xpr h1 h2 hk0;have hle:=xil h1 k;rw [←hll] at hd hle;by_cases hlt:k<dep l.length
 ·have hs:=xu0 l k
  have hbl:=xk5 l k;have h5:=xkk l.length;have hlv:up (dK l k)=dK l (k+1):=rfl;refine aA ?_;refine xia 30 rfl rfl rfl ?_;refine oI (xti (dK l k) ω) ?_;refine xwb 5 rfl rfl ?_;refine aA ?_;exact zn3 (hJ _ (⟨k+1,hlt⟩) ψ) (And.intro hlv hs)
 ·obtain rfl:k=dep l.length:=ω
  refine aA ?_;refine ret xdz [] ?_;(first|(simp only [go_sem];done)|(simp only [go_sem];((try dsimp only);(repeat' (refine And.intro ?_ ?_))<;>first|with_reducible rfl|(simp only [go_sem];done)|(simp only [go_sem];rfl)|(simp only [go_sem,iG];done)|(simp only [iG];(try simp only [go_sem]);first|done|rfl)|(simp only [go_sem];simp [iG];done)|(simp [iG];done)|rfl)))
theorem tof_fr (s:State) (L:LowS s) (h:shp s=true) (h1:1≤(dls s).length) (h2:(dls s).length≤20):Fnc Tryz.prog 11 [xdc s] (fun x obs=>x=.tup [.agg [.sl true 1 ((iG (dls s)).map dtV)],.int .i64 0]∧obs=[]):=
 ywo s L h _ 0 (ygl (dls s) h1 h2) (.inr (.inr ⟨_,rfl⟩))
end Go.Proofs.YthmjocibdepahaaGreat.Tp
namespace Go.Proofs.YthmjocibdepahaaGreat
open Go Go.RowKit Rdn Rdn.Dp
def xq8:=aC 117
def ynn:=aC 165
def yno:=aC 116
def ynq:=aC 115
def xqa:=aC 164
def xyj:=aC 114
def xyc:=aC 53
def yoh:=aC 54
def yog:=aC 57
def yah:=aC 56
def yag:=aC 55
def ya1:=aC 118
def xqu:=aC 58
def xyo:=aC 19
def xy4:=aC 5
theorem xtz (l:List Int) (hb:l.length≤140737488351232):Fnc Tryz.prog 117 [.sl false 1 (l.map (V.int .u8))] (fun x obs=>x=.sl true 1 (l.map (V.int .u8))∧obs=[]):=by
 refine Fnc.intro xq8 ξ fun W S=>?_;simp only [ents,Nat.zero_add,Nat.reduceAdd,Qm,Qc,Ql,QL,Qf,Qs,Qb,Qk,QB,Qn,Qe,Qx,Qt,Qu,Q0,Q1,Qp,Qw,Qq,Qr,Qi];refine bF ?_;refine cZ ?_;refine bF ?_;refine kZ ?_;refine xew rfl trivial ?_;refine xgc rfl rfl fun b hb0=>?_;cases b with
 |false=>
  simp only [iF,X.ev,aV,AS.put,if_true];refine aA ?_;exact aU xq8
 |true=>
  have hl:l=[]:=by
   cases l with
   |nil=>rfl
   |cons a l=>exact absurd (hb0 ξ) ξ
  subst hl;simp only [iF,X.ev,aV,AS.put,if_true];refine bF ?_;refine cZ ?_;refine bF ?_;refine tZ 2 true 1 rfl ?_;exact aU xq8
theorem ypo (a:List Int):(nO a).map xa6=a:=by
 rw [List.map_map];exact List.map_id'' (fun x=>rfl) a
theorem xtx (bs:ByteArray):∀(m i:Nat) (r:List UInt8),bs.size-i=m→ByteArray.toList.loop bs i r=r.reverse++bs.data.toList.drop i:=by
 intro m
 induction m with
 |zero=>
  intro i r h;rw [ByteArray.toList.loop,if_neg ω,List.drop_of_length_le (by simp only [Array.length_toList];exact Nat.sub_eq_zero_iff_le.1 h)];simp
 |succ m ih=>
  intro i r h;have hi:i<bs.data.toList.length:=by simp only [Array.length_toList];show i<bs.size;omega
  rw [ByteArray.toList.loop,if_pos (by show i<bs.size;omega),ih (i+1) _ ω,List.drop_eq_getElem_cons hi];have e:bs.get! i=bs.data.toList[i]:=by
   show bs.data[i]! =_;rw [getElem!_pos bs.data i (by simpa using hi)];simp
  rw [e,List.reverse_cons,List.append_assoc];rfl
theorem xt1 (a:List Int):(strOfNums a).toList=a.map fun n=>UInt8.ofNat n.toNat:=by
 unfold ByteArray.toList;rw [xtx _ _ 0 [] rfl];simp [strOfNums]
theorem yvs {a b:List Int} (ha:∀x∈a,jE .u8 x) (hb:∀x∈b,jE .u8 x):((strOfNums a).toList==(strOfNums b).toList)=decide (a=b):=by
 rw [xt1,xt1];have key:∀(a b:List Int),(∀x∈a,jE .u8 x)→(∀x∈b,jE .u8 x)→(a.map (fun n=>UInt8.ofNat n.toNat)=b.map fun n=>UInt8.ofNat n.toNat)→a=b:=by
  intro a
  induction a with
  |nil=>intro b _ _ h;cases b with
   |nil=>rfl
   |cons y b=>simp at h
  |cons x a ih=>intro b h1 h2 h;cases b with
   |nil=>simp at h
   |cons y b=>
    simp only [List.map_cons,List.cons.injEq] at h;have e:=ih b (fun z hz=>h1 z (by simp [hz])) (fun z hz=>h2 z (by simp [hz])) h.2;have hx:=xpx (h1 x ξ);have hy:=xpx (h2 y ξ);have:=congrArg UInt8.toNat h.1;simp only [UInt8.toNat_ofNat'] at this;rw [e]
    congr 1
    omega
 by_cases h:a=b
 ·subst h;simp
 ·have:¬(a.map (fun n=>UInt8.ofNat n.toNat)=b.map fun n=>UInt8.ofNat n.toNat):=fun h'=>h (key a b ha hb h')
  rw [aJ h];simpa using this
attribute [local go_sem] ypo
theorem ygb (a b:List Int):Fnc Tryz.prog 165 [.sl false 1 (nO a),.sl false 1 (nO b)] (fun x obs=>x=.bool (decide (a=b))∧obs=[]):=by
 refine Fnc.wf fun hw=>?_;simp only [V.wfs,V.wf,lW,List.length_map] at hw;have e:=yvs hw.1.1 hw.2.1.1;rw [←e];exact aZ ynn
abbrev vY (b:List Int):V:=.agg [.bool true,.sl false 1 (nO b)]
structure Cls where
 by_:List Int
 mem:List Int
 deriving Inhabited
abbrev vC (c:Cls):V:=.agg [.bool true,.sl false 1 (nO c.by_),.sl false 1 (bH c.mem)]
instance :Lo vC vC:=⟨fun _=>rfl,fun o=>by simp only [vC,V.low,V.lows,uC]⟩
theorem yh0 (a b:List Int):Fnc Tryz.prog 116 [vY a,vY b] (fun x obs=>x=.bool (decide (a=b))∧obs=[]):=by
 exact eY yno (ygb a b)
def wB (a:List Int) (c:Cls):Bool:=decide (a=c.by_)
theorem yhn (a:List Int) (c:Cls):Fnc Tryz.prog 115 [vC c,.rp (vY a)] (fun x obs=>x=.bool (wB a c)∧obs=[]):=by
 unfold wB;exact eY ynq (yh0 a c.by_)
theorem yhj (a:List Int) (l:List Cls):Fnc Tryz.prog 164 [.sl false 3 (l.map vC),.clo (.fn 115) [.rp (vY a)]] (fun x obs=>x=.int .i64 (rV (wB a) l)∧obs=[]):=by
 refine Fnc.wf fun hw=>?_;have hm:l.length≤140737488355328:=by
  have:=hw.1;simp only [V.wf,List.length_map] at this;exact this.2
 clear hw;refine aI xqa fun W S=>?_;refine bI [0,1,7] (fun p:{p:Nat // p≤l.length∧∀j,j<p→(wB a) l[j]! =false}=>[(8,.int .i64 p.1)]) (fun _=>[]) (fun p=>l.length-p.1) (⟨0,by simp⟩) 0 ?_;intro J hJ
 rintro⟨k,hk0,hk1⟩
 by_cases hlt:k<l.length
 ·have hc:=yhn a l[k]!
  cases hb:(wB a) l[k]! with
  |true=>
   rw [hb] at hc;have hr:=xcp (p:=(wB a)) hlt hk1 hb;refine aA ?_;refine mW (hc) ?_;exact aX xqa hr
  |false=>
   rw [hb] at hc;have hS:∀j,j<k+1→(wB a) l[j]! =false:=fun j hj=>by
    by_cases e:j=k
    ·subst e;exact hb
    ·exact hk1 j ω
   refine aA ?_;refine mW (hc) ?_;exact nP (hJ _ (⟨k+1,hlt,hS⟩) ψ) hlt
 ·obtain rfl:k=l.length:=ω
  have hr:=xdv (p:=(wB a)) hk1;refine aA ?_;exact aX xqa hr
theorem yf9 (n:Int) (h:1≤n∧n≤5):Fnc Tryz.prog 54 [.int .i64 n] (fun x obs=>x=.bool true∧obs=[]):=by
 exact aZ yoh
theorem yx9:Fnc Tryz.prog 57 [.int .i64 3] (fun x obs=>x=.int .i64 2∧obs=[]):=by
 have f:=yf9 3 δ;exact eY yog f
theorem xrt (a:List Int) (l:List Cls):Fnc Tryz.prog 114 [.sl false 3 (l.map vC),.clo (.fn 115) [.rp (vY a)]] (fun x obs=>x=.int .i64 (if 0≤rV (wB a) l then rV (wB a) l else l.length)∧obs=[]):=by
 have f:=yhj a l;by_cases h:0≤rV (wB a) l
 ·rw [if_pos h]
  exact eY xyj f
 ·rw [if_neg h]
  exact eY xyj f
theorem yhs (a b:List Int) (ha:a.length≤1000000) (hb:b.length≤1000000) (hne:¬a=b):Fnc Tryz.prog 53 [.sl false 2 [vY a,vY b,vY a],.sl false 1 [.bool true,.bool true,.bool true]] (fun x obs=>x=.tup [.sl false 3 ([⟨a,[0,2]⟩,⟨b,[1]⟩].map vC),.int .i64 0]∧obs=[]):=by
 refine Fnc.low ?_;have fp1:Fnc Tryz.prog 114 [.sl false 3 [],.clo (.fn 115) [.rp (vY a)]] (fun x obs=>x=.int .i64 0∧obs=[]):=xrt a [];have fp2:Fnc Tryz.prog 114 [.sl false 3 [vC ⟨a,[0]⟩],.clo (.fn 115) [.rp (vY b)]] (fun x obs=>x=.int .i64 1∧obs=[]):=by
  have h:rV (wB b) [⟨a,[0]⟩]=-1:=by simp [rV,wB,Ne.symm hne]
  have:=xrt b [⟨a,[0]⟩];rw [h] at this;exact this
 have fp3:Fnc Tryz.prog 114 [.sl false 3 [vC ⟨a,[0]⟩,vC ⟨b,[1]⟩],.clo (.fn 115) [.rp (vY a)]] (fun x obs=>x=.int .i64 0∧obs=[]):=by
  have h:rV (wB a) [(⟨a,[0]⟩:Cls),⟨b,[1]⟩]=((0:Nat):Int):=xcp (p:=wB a) (l:=[(⟨a,[0]⟩:Cls),⟨b,[1]⟩]) (k:=0) ξ (fun j hj=>absurd hj (Nat.not_lt_zero _)) (decide_eq_true rfl);have:=xrt a [⟨a,[0]⟩,⟨b,[1]⟩];rw [h] at this;exact this
 have fa:=xtz a ω;have fb:=xtz b ω;refine aI xyc fun W S=>?_;refine fU 4 ?_;refine aA ?_;refine xia 32 rfl rfl χ ?_;refine aF (fp1) ?_;refine bZ (fa) ?_;refine cZ ?_;refine cZ ?_;refine cZ ?_;refine iI 3 rfl ?_;refine aK ?_;refine dS false [3] [1,6,7,9,19,20,21] χ χ ?_;simp only [go_sem];refine aA ?_;refine xia 32 rfl rfl χ ?_;refine xu7 2 fp2 ⟨rfl,?_,?_,rfl,rfl,?_⟩
 ·intro y hy
  simp only [go_sem,List.mem_cons,List.not_mem_nil,or_false] at hy;rcases hy with rfl|rfl
  ·simp [xcm,xB,gG,bT,xas,V.pure,V.pures,bV]
  ·rfl
 ·simp only [go_sem]
  simp [dpA,pV,gG,bT,yH,V.low,V.lows,uC]
 simp only [go_sem];refine aA ?_;refine bZ (fb) ?_;refine aA ?_;refine xia 32 rfl rfl χ ?_;refine xu7 2 fp3 ⟨rfl,?_,?_,rfl,rfl,?_⟩
 ·intro y hy
  simp only [go_sem,List.mem_cons,List.not_mem_nil,or_false] at hy;rcases hy with rfl|rfl
  ·simp [xcm,xB,gG,bT,xas,V.pure,V.pures,bV]
  ·rfl
 ·simp only [go_sem]
  simp [dpA,pV,gG,bT,yH,V.low,V.lows,uC]
 simp only [go_sem];refine aA ?_;refine gX 0 0 2 2 rfl rfl rfl rfl ?_;refine aK ?_;refine gX 0 1 2 7 rfl rfl rfl rfl ?_;refine aK ?_;refine fG 0 rfl (by simp [V.pures,V.pure,bV]) ?_;refine aK ?_;exact aU xyc
theorem yf6 (h:Bool) (b1 b2 m1 m2:List Int) (h2:Bool):Fnc Tryz.prog 56 [.agg [.bool h,.sl false 1 (nO b1),.sl false 1 (bH m1)],.agg [.bool h2,.sl false 1 (nO b2),.sl false 1 (bH m2)]] (fun x obs=>x=.bool (h && decide ((m1.length:Int)>m2.length))∧obs=[]):=by
 cases h with
 |true=>
  exact aZ yah
 |false=>
  exact aZ yah
theorem yx4 (a b:List Int):Fnc Tryz.prog 55 [.sl false 3 ([⟨a,[0,2]⟩,⟨b,[1]⟩].map vC),.fn 56] (fun x obs=>x=vC ⟨a,[0,2]⟩∧obs=[]):=by
 have f1:Fnc Tryz.prog 56 [vC ⟨a,[0,2]⟩,.agg [.bool false,.sl false 1 [],.sl false 1 []]] (fun x obs=>x=.bool true∧obs=[]):=yf6 true a [] [0,2] [] false;have f2:Fnc Tryz.prog 56 [vC ⟨b,[1]⟩,vC ⟨a,[0,2]⟩] (fun x obs=>x=.bool false∧obs=[]):=yf6 true b a [1] [0,2] true;refine aI yag fun W S=>?_;refine fU 3 ?_;refine aA ?_;refine mW (f1) ?_;refine mW (f2) ?_;exact aU yag
theorem xsr (n r:Int) (h:n=0∧r=0∨n=1∧r=-1∨n=2∧r=1):Fnc Tryz.prog 118 [.sl false 1 [.int .i64 0,.int .i64 2],.int .i64 n] (fun x obs=>x=.int .i64 r∧obs=[]):=by
 rcases h with ⟨rfl,rfl⟩|⟨rfl,rfl⟩|⟨rfl,rfl⟩
 all_goals
  refine aI ya1 fun W S=>?_;refine fU 3 ?_;refine aA ?_;exact aU ya1
theorem xsc (n:Int) (h:n=0∨n=1∨n=2):Fnc Tryz.prog 58 [.sl false 1 [.int .i64 0,.int .i64 2],.int .i64 n] (fun x obs=>x=.bool (decide (¬n=1))∧obs=[]):=by
 rcases h with rfl|rfl|rfl
 ·have f:=xsr 0 0 δ
  exact eY xqu f
 ·have f:=xsr 1 (-1) δ
  exact eY xqu f
 ·have f:=xsr 2 1 δ
  exact eY xqu f
theorem yio (a b:List Int) (ha:a.length≤1000000) (hb:b.length≤1000000) (hne:¬a=b):Fnc Tryz.prog 19 [.sl false 2 [vY a,vY b,vY a],.sl false 1 [.bool true,.bool true,.bool true],.int .i64 2] (fun x obs=>x=.tup [.agg [.int .i64 2,.sl false 1 (nO a),.sl false 1 [.int .i64 1]],.int .i64 0]∧obs=[]):=by
 refine Fnc.low ?_;have fc:=yhs a b ha hb hne;have fs:=yf9 2 δ;have fb:=yx4 a b;simp only [List.map_cons,List.map_nil,vC,bH,nO] at fb;have fn:Fnc Tryz.prog 57 [.int .i64 (((2:Nat):Int)+((1:Nat):Int))] (fun x obs=>x=.int .i64 2∧obs=[]):=yx9;have c0:=xsc 0 δ;have c1:=xsc 1 δ;have c2:=xsc 2 δ;refine qK xyo fc fs fun W S=>?_;refine fU 3 ?_;refine aA ?_;refine ygw fb ⟨rfl,?_,?_,rfl,?_⟩
 ·intro y hy
  simp only [go_sem,List.mem_cons,List.not_mem_nil,or_false] at hy;rcases hy with rfl|rfl
  ·simp [xk2,V.pure,V.pures,bV]
  ·rfl
 ·simp only [go_sem]
  simp [dpL,V.low,V.lows,uC]
 simp only [go_sem];refine aA ?_;refine aF (fn) ?_;refine fU 4 ?_;refine aA ?_;exact zK3 c0 c1 c2 xyo
theorem yg8:Fnc Tryz.prog 5 [] (fun x obs=>x=.bool true∧obs=[]):=by
 have f:=yio [1] [2] δ δ δ;simp only [vY,nO,List.map_cons,List.map_nil] at f;have hs:((strOfNums [1]).toList==(ByteArray.mk #[1]).toList)=true:=by
  rw [xt1];unfold ByteArray.toList;rw [xtx _ _ 0 [] rfl];simp
 refine aI xy4 fun W S=>?_;refine xi9 ?_;refine bK ?_;refine aF (f) ?_;exact aX xy4 hs
end Go.Proofs.YthmjocibdepahaaGreat
