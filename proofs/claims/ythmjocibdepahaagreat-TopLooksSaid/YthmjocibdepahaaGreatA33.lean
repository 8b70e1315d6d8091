import Derived.Test.YthmjocibdepahaaGreatA32
set_option linter.defProp false
set_option linter.unusedSimpArgs false
set_option linter.unusedVariables false
set_option maxHeartbeats 64000000
set_option maxRecDepth 100000
namespace Go.Proofs.YthmjocibdepahaaGreat
open Go Go.RowKit Rdn Rdn.Dp
def xa3:=aC 202
theorem xr9 {w:List Int} {t:Int} (h:∀b:Nat,b<w.length→¬w[b]! =t):¬t∈w:=fun hm=>by
 obtain⟨b,hb,e⟩:=List.mem_iff_getElem.1 hm;refine h b hb ?_;rw [List.getElem!_eq_getElem?_getD,List.getElem?_eq_getElem hb];exact e
theorem ynj (l:PLocks) (h:okLk l) (k t:Int):Fnc Tryz.prog 202 [nU false l,.int .i64 k,.int .i64 t] (fun x obs=>x=.tup [nU true (uP l k t).1,.int .i64 (uP l k t).2]∧obs=[]):=by
 have fc:=xpz l h;have ho:=h.o;have hq:=h.q;unfold uP;by_cases k0:k<0
 ·rw [if_pos (.inl k0)]
  refine aI xa3 fun W S=>?_;refine dD (fc) ?_;exact aU xa3
 by_cases k1:4≤k
 ·rw [if_pos (.inr (.inl k1))]
  refine aI xa3 fun W S=>?_;refine dD (fc) ?_;exact aU xa3
 obtain⟨K,rfl⟩:∃K:Nat,k=K:=⟨k.toNat,ω⟩;rw [Int.toNat_natCast];by_cases k2:l.owner[K]! =t
 ·rw [if_pos (.inr (.inr k2))]
  refine aI xa3 fun W S=>?_;refine dD (fc) ?_;exact aU xa3
 rw [if_neg (by simp only [not_or];exact⟨k0,k1,k2⟩)];by_cases hE:∃w∈l.queue,t∈w
 ·rw [if_pos hE]
  refine aI xa3 fun W S=>?_;refine dD (fc) ?_;refine bI [1,2,3,6,8,32,33] (fun q:{q:Nat // q≤l.queue.length∧∀a,a<q→¬t∈l.queue[a]!}=>[(34,.int .i64 q.1)]) (fun _=>[⟨.box false 97,true,0,nU false l⟩,⟨.box false 97,true,0,.agg [.nilS,.nilS]⟩,oD l.owner,xd8 l.queue,⟨.box false 97,true,0,.agg [.own 2 0,.own 3 0]⟩]) (fun q=>l.queue.length-q.1) (⟨0,ω,fun a ha=>absurd ha ω⟩) 5 ?_;intro J hJ
  rintro⟨a,ha0,hT⟩
  by_cases hla:a<l.queue.length
  ·have hw4:l.queue[a]!.length≤4:=xc8 (h.qu _ (dJ hla))
   refine aA ?_;have hJo:=hJ;refine bI [1,2,3,6,8,32,33,34,38,39] (fun q:{q:Nat // q≤l.queue[a]!.length∧∀b,b<q→¬l.queue[a]![b]! =t}=>[(40,.int .i64 q.1)]) (fun _=>[⟨.box false 97,true,0,nU false l⟩,⟨.box false 97,true,0,.agg [.nilS,.nilS]⟩,oD l.owner,xd8 l.queue,⟨.box false 97,true,0,.agg [.own 2 0,.own 3 0]⟩]) (fun q=>l.queue[a]!.length-q.1) (⟨0,ω,fun b hb=>absurd hb ω⟩) 5 ?_;intro J hJ
   rintro⟨b,hb0,hU⟩
   by_cases hlb:b<l.queue[a]!.length
   ·by_cases hp:l.queue[a]![b]! =t
    ·refine aA ?_
     exact aU xa3
    ·refine aA ?_
     exact rQ (hJ _ (⟨b+1,hlb,xej hU hp⟩) ψ) hlb
   obtain rfl:b=l.queue[a]!.length:=ω;have hN:¬t∈l.queue[a]!:=xr9 hU;refine aA ?_;exact lX 5 (hJo _ (⟨a+1,hla,xej hT hN⟩) (by dsimp only;omega)) (by refine⟨rfl,by simp,?_,?_,?_,?_⟩<;>first|rfl|exact trivial|(simp only [go_sem];done)|(simp only [go_sem];(repeat' (refine And.intro ?_ ?_))<;>first|exact trivial|rfl))
  obtain rfl:a=l.queue.length:=ω;obtain⟨w,hw1,hw2⟩:=hE;obtain⟨a,ha,e⟩:=List.mem_iff_getElem.1 hw1;refine absurd hw2 ?_;have:=hT a ha
  rwa [List.getElem!_eq_getElem?_getD,List.getElem?_eq_getElem ha,Option.getD_some,e] at this
 rw [if_neg hE];by_cases k3:l.owner[K]! =-1
 ·rw [if_pos k3]
  refine aI xa3 fun W S=>?_;refine dD (fc) ?_;refine bI [1,2,3,6,8,32,33] (fun q:{q:Nat // q≤l.queue.length∧∀a,a<q→¬t∈l.queue[a]!}=>[(34,.int .i64 q.1)]) (fun _=>[⟨.box false 97,true,0,nU false l⟩,⟨.box false 97,true,0,.agg [.nilS,.nilS]⟩,oD l.owner,xd8 l.queue,⟨.box false 97,true,0,.agg [.own 2 0,.own 3 0]⟩]) (fun q=>l.queue.length-q.1) (⟨0,ω,fun a ha=>absurd ha ω⟩) 5 ?_;intro J hJ
  rintro⟨a,ha0,hT⟩
  by_cases hla:a<l.queue.length
  ·have hw4:l.queue[a]!.length≤4:=xc8 (h.qu _ (dJ hla))
   refine aA ?_;have hJo:=hJ;refine bI [1,2,3,6,8,32,33,34,38,39] (fun q:{q:Nat // q≤l.queue[a]!.length∧∀b,b<q→¬l.queue[a]![b]! =t}=>[(40,.int .i64 q.1)]) (fun _=>[⟨.box false 97,true,0,nU false l⟩,⟨.box false 97,true,0,.agg [.nilS,.nilS]⟩,oD l.owner,xd8 l.queue,⟨.box false 97,true,0,.agg [.own 2 0,.own 3 0]⟩]) (fun q=>l.queue[a]!.length-q.1) (⟨0,ω,fun b hb=>absurd hb ω⟩) 5 ?_;intro J hJ
   rintro⟨b,hb0,hU⟩
   by_cases hlb:b<l.queue[a]!.length
   ·by_cases hp:l.queue[a]![b]! =t
    ·exact absurd ⟨_,dJ hla,hp▸dJ hlb⟩ hE
    ·refine aA ?_
     exact rQ (hJ _ (⟨b+1,hlb,xej hU hp⟩) ψ) hlb
   obtain rfl:b=l.queue[a]!.length:=ω;have hN:¬t∈l.queue[a]!:=xr9 hU;refine aA ?_;exact lX 5 (hJo _ (⟨a+1,hla,xej hT hN⟩) (by dsimp only;omega)) (by refine⟨rfl,by simp,?_,?_,?_,?_⟩<;>first|rfl|exact trivial|(simp only [go_sem];done)|(simp only [go_sem];(repeat' (refine And.intro ?_ ?_))<;>first|exact trivial|rfl))
  obtain rfl:a=l.queue.length:=ω;refine aA ?_;refine ret xa3 [] ?_;(first|(simp only [go_sem];done)|(simp only [go_sem];((try dsimp only);(repeat' (refine And.intro ?_ ?_))<;>first|with_reducible rfl|(simp only [go_sem];done)|(simp only [go_sem];rfl)|(simp only [go_sem,List.map_set];done)|(simp only [List.map_set];(try simp only [go_sem]);first|done|rfl)|(simp only [go_sem];simp [List.map_set];done)|(simp [List.map_set];done)|rfl)))
 rw [if_neg k3];clear fc;have fc:=yn0 l h;refine aI xa3 fun W S=>?_;refine dD (fc) ?_;refine bI [1,2,3,6,8,32,33] (fun q:{q:Nat // q≤l.queue.length∧∀a,a<q→¬t∈l.queue[a]!}=>[(34,.int .i64 q.1)]) (fun _=>[⟨.box false 97,true,0,nU false l⟩,⟨.box false 97,true,0,.agg [.nilS,.nilS]⟩,oD l.owner,⟨.rows false 22,true,0,.arr 1 [.own 4 0,.own 5 0,.own 6 0,.own 7 0]⟩,oD l.queue[0]!,oD l.queue[1]!,oD l.queue[2]!,oD l.queue[3]!,⟨.box false 97,true,0,.agg [.own 2 0,.own 3 0]⟩]) (fun q=>l.queue.length-q.1) (⟨0,ω,fun a ha=>absurd ha ω⟩) 9 ?_;intro J hJ
 rintro⟨a,ha0,hT⟩
 by_cases hla:a<l.queue.length
 ·have hw4:l.queue[a]!.length≤4:=xc8 (h.qu _ (dJ hla))
  refine aA ?_;have hJo:=hJ;refine bI [1,2,3,6,8,32,33,34,38,39] (fun q:{q:Nat // q≤l.queue[a]!.length∧∀b,b<q→¬l.queue[a]![b]! =t}=>[(40,.int .i64 q.1)]) (fun _=>[⟨.box false 97,true,0,nU false l⟩,⟨.box false 97,true,0,.agg [.nilS,.nilS]⟩,oD l.owner,⟨.rows false 22,true,0,.arr 1 [.own 4 0,.own 5 0,.own 6 0,.own 7 0]⟩,oD l.queue[0]!,oD l.queue[1]!,oD l.queue[2]!,oD l.queue[3]!,⟨.box false 97,true,0,.agg [.own 2 0,.own 3 0]⟩]) (fun q=>l.queue[a]!.length-q.1) (⟨0,ω,fun b hb=>absurd hb ω⟩) 9 ?_;intro J hJ
  rintro⟨b,hb0,hU⟩
  by_cases hlb:b<l.queue[a]!.length
  ·by_cases hp:l.queue[a]![b]! =t
   ·exact absurd ⟨_,dJ hla,hp▸dJ hlb⟩ hE
   ·refine aA ?_
    refine lI 9 (hJ _ (⟨b+1,hlb,xej hU hp⟩) ψ) rfl ξ ?_ φ (by first|rfl|(simp only [go_sem];done)|(simp only [hlb];(try simp only [go_sem]);first|done|rfl)) ?_
    ·exact zna hlb
    ·exact znb hlb
  obtain rfl:b=l.queue[a]!.length:=ω;have hN:¬t∈l.queue[a]!:=xr9 hU;refine aA ?_;exact lX 9 (hJo _ (⟨a+1,hla,xej hT hN⟩) (by dsimp only;omega)) (by refine⟨rfl,by simp,?_,?_,?_,?_⟩<;>first|rfl|exact trivial|(simp only [go_sem];done)|(simp only [go_sem];(repeat' (refine And.intro ?_ ?_))<;>first|exact trivial|rfl))
 obtain rfl:a=l.queue.length:=ω;have hK:K=0∨K=1∨K=2∨K=3:=ω;obtain⟨ow,qu⟩:=l;obtain⟨w0,w1,w2,w3,rfl⟩:=gQ ho;obtain⟨q0,q1,q2,q3,rfl⟩:=gQ hq;have h0:q0.length≤4:=xc8 (h.qu _ ξ);have h1:q1.length≤4:=xc8 (h.qu _ ξ);have h2:q2.length≤4:=xc8 (h.qu _ ξ);have h3:q3.length≤4:=xc8 (h.qu _ ξ);simp only [oD,List.getElem!_cons_zero,List.getElem!_cons_succ];rcases hK with rfl|rfl|rfl|rfl
 all_goals
  simp only [List.getElem!_cons_zero,List.getElem!_cons_succ,List.set_cons_zero,List.set_cons_succ] at k3⊢;refine aA ?_;refine xi6 3 0 4 rfl rfl rfl ?_;refine aK ?_;refine xi6 3 1 5 rfl rfl rfl ?_;refine aK ?_;refine xi6 3 2 6 rfl rfl rfl ?_;refine aK ?_;refine xi6 3 3 7 rfl rfl rfl ?_;refine aK ?_;refine fG 3 rfl (by rfl) ?_;refine aK ?_;exact aU xa3
end Go.Proofs.YthmjocibdepahaaGreat
