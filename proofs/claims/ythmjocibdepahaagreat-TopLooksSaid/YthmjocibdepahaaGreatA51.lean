import Derived.Test.YthmjocibdepahaaGreatA8
set_option linter.defProp false
set_option linter.unusedSimpArgs false
set_option linter.unusedVariables false
set_option maxHeartbeats 64000000
set_option maxRecDepth 100000
namespace Go.Proofs.YthmjocibdepahaaGreat
open Go Go.RowKit Rdn Rdn.Dp
def xxz:=aC 90
def xz2:=aC 95
def xpp (s b:Int):Int:=zN .u32 s b*16777619 % 4294967296
def fE (s:Int) (l:List Int):Int:=l.foldl xpp s
theorem yim (s:Int) (l:List Int) (b:Int):fE s (l++[b])=xpp (fE s l) b:=by simp [fE]
theorem xam (s:Int) (l:List Int):Fnc Tryz.prog 90 [.int .u32 s,.sl false 1 (nO l)] (fun x obs=>x=.int .u32 (fE s l)∧obs=[]):=by
 refine Fnc.wf fun hw=>?_;simp only [V.wfs,V.wf,lW,List.length_map] at hw;obtain⟨hs,⟨hl,hm⟩,_⟩:=hw;refine aI xxz fun W S=>?_;refine gY [7,8] (fun p:{p:Nat // p≤l.length}=>[(0,.int .u32 (fE s (l.take p.1))),(9,.int .i64 p.1)]) (fun _=>[]) (fun p=>l.length-p.1) (⟨0,by simp⟩) 0 τ ?_ (by first|rfl|(simp only [go_sem];done)|(simp only [go_sem];simp [fE];done)) ξ φ φ (by first|rfl|(simp only [go_sem];done)|(simp only [fE];(try simp only [go_sem]);first|done|rfl)) ?_
 ·(simp only [go_sem];(try simp [fE]);done)
 intro J hJ
 rintro⟨k,hk0⟩
 by_cases hlt:k<l.length
 ·have hx:=xpx (hl l[k]! (kE hlt))
  refine aA ?_;refine lI 0 (hJ _ (⟨k+1,hlt⟩) ψ) rfl ξ ?_ φ (by first|rfl|(simp only [go_sem];done)|(simp only [jG hlt,yim,xpp];(try simp only [go_sem]);first|done|rfl)) ?_
  ·(first|rfl|(simp only [go_sem];done)|(simp only [go_sem];simp only [jG hlt,yim,xpp];done)|(simp only [jG hlt,yim,xpp];done)|(simp only [go_sem];simp [jG hlt,yim,xpp];done)|(simp [jG hlt,yim,xpp];done))
  ·(simp only [go_sem];(repeat' (refine And.intro ?_ ?_))<;>first|exact trivial|with_reducible rfl|(simp only [jG hlt,yim,xpp];done)|(simp only [jG hlt,yim,xpp];with_reducible rfl)|(simp [jG hlt,yim,xpp];done)|(simp [jG hlt,yim,xpp];omega)|(simp only [jG hlt,yim,xpp];rfl)|skip)
 ·obtain rfl:k=l.length:=ω
  refine aA ?_;exact zrl xxz
def xl9 (a b:Int):List Int:=[a % 256,a / 256 % 256,a / 65536 % 256,a / 16777216,b % 256,b / 256 % 256,b / 65536 % 256,b / 16777216]
def xbq (a b:Int):Int:=fE 2166136261 (xl9 a b)
theorem ymo (a b:Int):Fnc Tryz.prog 95 [.int .u32 a,.int .u32 b] (fun x obs=>x=.int .u32 (xbq a b)∧obs=[]):=by
 refine Fnc.wf fun hw=>?_;simp only [V.wfs,V.wf,lW,List.length_map] at hw;have ha:=xx6 hw.1;have hb:=xx6 hw.2.1;refine aI xz2 fun W S=>?_
 (first|refine xdl (xam 2166136261 (xl9 a b)) ?_|refine xdn (xam 2166136261 (xl9 a b)) ?_);simp only [go_sem,xl9]
 refine aA ?_;refine ret xz2 [] ?_;(first|(simp only [go_sem];done)|(simp only [go_sem];((try dsimp only);(repeat' (refine And.intro ?_ ?_))<;>first|with_reducible rfl|(simp only [go_sem];done)|(simp only [go_sem];rfl)|(simp only [go_sem,xbq];done)|(simp only [xbq];(try simp only [go_sem]);first|done|rfl)|(simp only [go_sem];simp [xbq];done)|(simp [xbq];done)|rfl)))
end Go.Proofs.YthmjocibdepahaaGreat
namespace Go.Proofs.YthmjocibdepahaaGreat
open Go Go.RowKit Rdn Rdn.Dp
attribute [local irreducible] xbq
def up (l:List Int):List Int:=(List.range ((l.length+1) / 2)).map fun i=>if 2*i+1=l.length then l[2*i]! else xbq l[2*i]! l[2*i+1]!
theorem xjy (l:List Int):(up l).length=(l.length+1) / 2:=by simp [up]
theorem yx1 {l:List Int} {i:Nat} (h:i<(l.length+1) / 2):(up l)[i]! =if 2*i+1=l.length then l[2*i]! else xbq l[2*i]! l[2*i+1]!:=by
 rw [getElem!_pos (up l) i (by rw [xjy];exact h)];simp only [up,List.getElem_map,List.getElem_range]
def dK (l:List Int):Nat→List Int
 |0=>l
 |k+1=>up (dK l k)
def hl (n:Nat):Nat→Nat
 |0=>n
 |k+1=>(hl n k+1) / 2
theorem xct (l:List Int):∀k,(dK l k).length=hl l.length k
 |0=>rfl
 |k+1=>by rw [dK,xjy,xct l k];rfl
def dep (n:Nat):Nat:=if n≤1 then 0 else if n≤2 then 1 else if n≤4 then 2 else if n≤8 then 3 else if n≤16 then 4 else 5
theorem xva {n c:Nat} (h:dep n=c):(c=0∧n≤1)∨(c=1∧n=2)∨(c=2∧3≤n∧n≤4)∨(c=3∧5≤n∧n≤8)∨(c=4∧9≤n∧n≤16)∨(c=5∧17≤n):=by
 unfold dep at h
 repeat' split at h
 all_goals omega
theorem xkk (n:Nat):dep n≤5:=by have:=xva (n:=n) rfl;omega
theorem six {k:Nat} (h:k≤5):k=0∨k=1∨k=2∨k=3∨k=4∨k=5:=ω
theorem xx2 {n k:Nat} (h:1≤n):1≤hl n k:=by
 induction k with
 |zero=>exact h
 |succ k ih=>simp only [hl];omega
theorem xpr {n k:Nat} (h1:1≤n) (h2:n≤20) (hk:k≤dep n):1<hl n k↔k<dep n:=by
 have h5:=xkk n;have hr:=xva (n:=n) rfl;rcases six (Nat.le_trans hk h5) with rfl|rfl|rfl|rfl|rfl|rfl<;>simp only [hl]<;>omega
theorem xx3 {n:Nat} (h1:1≤n) (h2:n≤20):hl n (dep n)=1:=by
 have:=xpr h1 h2 (Nat.le_refl _);have:=xx2 (k:=dep n) h1;omega
theorem ym1 {n:Nat} (h1:1≤n):∀{i j:Nat},i≤j→hl n j≤hl n i:=by
 intro i j h
 induction h with
 |refl=>exact Nat.le_refl _
 |step h ih=>simp only [hl];have:=xx2 (k:=i) h1;omega
theorem xil {n:Nat} (h1:1≤n) (k:Nat):hl n k≤n:=ym1 h1 (Nat.zero_le k)
def xap (l:List Int) (p:Nat):List (List Int):=(List.range (p+1)).map (dK l)
theorem xu0 (l:List Int) (p:Nat):xap l p++[dK l (p+1)]=xap l (p+1):=by
 unfold xap;rw [List.range_succ (n:=p+1),List.map_append];rfl
theorem xk5 (l:List Int) (p:Nat):(xap l p).length=p+1:=by simp [xap]
theorem ygd (l:List Int) {p k:Nat} (h:k≤p):(xap l p)[k]! =dK l k:=by
 rw [getElem!_pos (xap l p) k (by rw [xk5];omega)];simp [xap]
def iG (l:List Int):List (List Int):=xap l (dep l.length)
theorem xk4 (l:List Int):(iG l).length=dep l.length+1:=xk5 _ _
theorem xht (l:List Int) {k:Nat} (h:k≤dep l.length):(iG l)[k]! =dK l k:=ygd l h
theorem xo8 (l:List Int):(iG l)[0]! =l:=xht l (Nat.zero_le _)
def dif (x y:List Int) (L:List Nat):List Nat:=L.filter fun i=>decide (x[i]!≠y[i]!)
def kJ (w i:Nat):List Nat:=(if 2*i<w then [2*i] else [])++(if 2*i+1<w then [2*i+1] else [])
def chl (w:Nat) (d:List Nat):List Nat:=d.flatMap (kJ w)
def dst (l m:List Int):Nat→List Nat×Nat
 |0=>([0],0)
 |p+1=>(chl (dK l (dep l.length-p-1)).length (dif (dK l (dep l.length-p)) (dK m (dep l.length-p)) (dst l m p).1),(dst l m p).2+(dst l m p).1.length)
def xcn (l m:List Int):List Nat:=dif l m (dst l m (dep l.length)).1
def xg7 (l m:List Int):Nat:=(dst l m (dep l.length)).2+(dst l m (dep l.length)).1.length
theorem yjk (l m:List Int):xcn l m=dif (dK l 0) (dK m 0) (dst l m (dep l.length)).1:=rfl
theorem yj1 (l m:List Int):xg7 l m=(dst l m (dep l.length)).2+(dst l m (dep l.length)).1.length:=rfl
def Asc (w:Nat) (L:List Nat):Prop:=L.Pairwise (· <·)∧∀i∈L,i<w
theorem Asc.len {w:Nat}:∀{L:List Nat},Asc w L→L.length≤w:=by
 suffices h:∀(L:List Nat) (a:Nat),L.Pairwise (· <·)→(∀i∈L,a≤i∧i<w)→L.length≤w-a by
  intro L hL;have:=h L 0 hL.1 fun i hi=>⟨Nat.zero_le _,hL.2 i hi⟩;omega
 intro L
 induction L with
 |nil=>intro a _ _;simp
 |cons x L ih=>
  intro a hp hb;have hp':=List.pairwise_cons.1 hp;have hx:=hb x ξ;have:=ih (x+1) hp'.2 fun i hi=>⟨hp'.1 i hi,(hb i (by simp [hi])).2⟩;simp only [List.length_cons];omega
theorem Asc.dif {w:Nat} {L:List Nat} (h:Asc w L) (x y:List Int):Asc w (dif x y L):=⟨h.1.filter _,fun i hi=>h.2 i (List.mem_filter.1 hi).1⟩
theorem xom {w i j:Nat} (h:j∈kJ w i):j<w∧(j=2*i∨j=2*i+1):=by
 unfold kJ at h;rcases List.mem_append.1 h with h|h
 ·split at h
  ·simp at h;omega
  ·simp at h
 ·split at h
  ·simp at h;omega
  ·simp at h
theorem yhe (w i:Nat):(kJ w i).Pairwise (· <·):=by
 unfold kJ;split<;>split<;>simp
theorem Asc.chl {w v:Nat} {L:List Nat} (h:Asc v L):Asc w (chl w L):=by
 refine⟨?_,fun j hj=>?_⟩
 ·have hp:=h.1
  clear h
  induction L with
  |nil=>exact List.Pairwise.nil
  |cons x L ih=>
   have hp':=List.pairwise_cons.1 hp;show(kJ w x++_).Pairwise _;refine List.pairwise_append.2 ⟨yhe w x,ih hp'.2,fun a ha b hb=>?_⟩;obtain⟨i,hi,hb⟩:=List.mem_flatMap.1 hb;have h1:=xom ha;have h2:=xom hb;have:=hp'.1 i hi;omega
 ·obtain⟨i,hi,hj⟩:=List.mem_flatMap.1 hj
  exact(xom hj).1
theorem yjp (l m:List Int) (p:Nat):(dst l m (p+1)).2=(dst l m p).2+(dst l m p).1.length:=rfl
theorem xko {l m:List Int} (h1:1≤l.length) (h2:l.length≤20):∀{p:Nat},p≤dep l.length→Asc (hl l.length (dep l.length-p)) (dst l m p).1
 |0,_=>by
  rw [Nat.sub_zero,xx3 h1 h2];exact⟨by simp [dst],fun i hi=>by simp [dst] at hi;omega⟩
 |p+1,hp=>by
  have h:=xko (m:=m) h1 h2 (p:=p) ω;have:=(h.dif (dK l (dep l.length-p)) (dK m (dep l.length-p))).chl (w:=(dK l (dep l.length-p-1)).length);rw [xct] at this;show Asc (hl l.length (dep l.length-(p+1))) (chl (dK l (dep l.length-p-1)).length _);rw [show dep l.length-(p+1)=dep l.length-p-1 by omega,xct];exact this
theorem yjj {l m:List Int} (h1:1≤l.length) (h2:l.length≤20):Asc l.length (xcn l m):=by
 have:=xko (m:=m) h1 h2 (Nat.le_refl _);rw [Nat.sub_self] at this;exact this.dif _ _
theorem yjl {l m:List Int} {i:Nat} (h:i∈xcn l m):l[i]!≠m[i]!:=by
 have:=(List.mem_filter.1 h).2;simpa using this
theorem xup (w:Nat):∀d:List Nat,(chl w d).length≤2*d.length
 |[]=>by simp [chl]
 |x::d=>by
  have:=xup w d;have e:chl w (x::d)=kJ w x++chl w d:=rfl;have:(kJ w x).length≤2:=by unfold kJ;split<;>split<;>simp
  rw [e,List.length_append,List.length_cons];omega
end Go.Proofs.YthmjocibdepahaaGreat
namespace Go.Proofs.YthmjocibdepahaaGreat
open Go Go.RowKit Rdn Rdn.Dp
def xqe:=aC 92
def xlm:=aC 94
def xxy:=aC 93
def xdz:=aC 37
def xix:=aC 97
def xiy:=aC 96
def xgx:=aC 38
abbrev zT (w:List Int):V:=.sl false 1 (xhl w)
abbrev dtV (w:List Int):V:=.sl true 1 (xhl w)
theorem xus (l:List Int) (hb:l.length≤1000000):Fnc Tryz.prog 92 [.sl false 1 (l.map (V.int .u32))] (fun x obs=>x=.sl true 1 (l.map (V.int .u32))∧obs=[]):=by
 refine Fnc.intro xqe ξ fun W S=>?_;simp only [ents,Nat.zero_add,Nat.reduceAdd]
 repeat(first|refine xaz ?_|refine xav ?_|refine xb0 ?_|refine xax ?_|refine bY ?_|refine dI κ ?_|refine xaw rfl ?_|refine xay ?_|refine zX rfl ?_|refine zW rfl ?_|refine dR rfl (by first|exact aN ω|exact dB ω|exact dP ω|exact rZ (aJ ω)|exact rZ (dA ω)) ?_|refine dZ rfl (by first|exact aJ ω|exact dA ω|exact dO ω|exact rY (aN ω)|exact rY (dB ω)) ?_)
 (first|refine xaz ?_|refine xav ?_|refine xb0 ?_|refine xax ?_|refine bY ?_|refine dI κ ?_|refine xaw rfl ?_|refine xay ?_|refine zX rfl ?_|refine zW rfl ?_|refine dR rfl (by first|exact aN ω|exact dB ω|exact dP ω|exact rZ (aJ ω)|exact rZ (dA ω)) ?_|refine dZ rfl (by first|exact aJ ω|exact dA ω|exact dO ω|exact rY (aN ω)|exact rY (dB ω)) ?_|((first|refine fQ ?_|(refine xex rfl ?_;refine dH (fu:=[(),(),(),(),(),(),(),()]) ?_)|(refine xco rfl ?_;refine kD (md:=[]) (fu:=[(),(),(),(),(),(),(),()]) ?_)|refine xpc ?_|refine xpb ?_|refine xpf ?_|refine xpe ?_|refine iL (fu:=[(),(),(),(),(),(),(),()]) aT [] 0 rfl κ ?_|refine iL (fu:=[(),(),(),(),(),(),(),()]) aT [] 1 rfl κ ?_|refine iL (fu:=[(),(),(),(),(),(),(),()]) aT [] 2 rfl κ ?_);refine bK ?_))
 repeat(first|refine xaz ?_|refine xav ?_|refine xb0 ?_|refine xax ?_|refine bY ?_|refine dI κ ?_|refine xaw rfl ?_|refine xay ?_|refine zX rfl ?_|refine zW rfl ?_|refine dR rfl (by first|exact aN ω|exact dB ω|exact dP ω|exact rZ (aJ ω)|exact rZ (dA ω)) ?_|refine dZ rfl (by first|exact aJ ω|exact dA ω|exact dO ω|exact rY (aN ω)|exact rY (dB ω)) ?_)
 refine kZ ?_;refine xew rfl trivial ?_;refine xgc rfl rfl fun b hb0=>?_;cases b with
 |false=>
  simp only [iF,X.ev,aV,AS.put,if_true];refine aA ?_;refine ret xqe [] ?_;(first|(simp only [go_sem];done)|(simp only [go_sem];((try dsimp only);(repeat' (refine And.intro ?_ ?_))<;>first|with_reducible rfl|(simp only [go_sem];done)|(simp only [go_sem];rfl)|(simp only [];(try simp only [go_sem]);first|done|rfl)|(simp only [go_sem];simp [];done)|(simp [];done)|rfl)))
 |true=>
  have hl:l=[]:=by
   cases l with
   |nil=>rfl
   |cons a l=>exact absurd (hb0 ξ) ξ
  subst hl;simp only [iF,X.ev,aV,AS.put,if_true]
  repeat(first|refine xaz ?_|refine xav ?_|refine xb0 ?_|refine xax ?_|refine bY ?_|refine dI κ ?_|refine xaw rfl ?_|refine xay ?_|refine zX rfl ?_|refine zW rfl ?_|refine dR rfl (by first|exact aN ω|exact dB ω|exact dP ω|exact rZ (aJ ω)|exact rZ (dA ω)) ?_|refine dZ rfl (by first|exact aJ ω|exact dA ω|exact dO ω|exact rY (aN ω)|exact rY (dB ω)) ?_)
  (first|refine xaz ?_|refine xav ?_|refine xb0 ?_|refine xax ?_|refine bY ?_|refine dI κ ?_|refine xaw rfl ?_|refine xay ?_|refine zX rfl ?_|refine zW rfl ?_|refine dR rfl (by first|exact aN ω|exact dB ω|exact dP ω|exact rZ (aJ ω)|exact rZ (dA ω)) ?_|refine dZ rfl (by first|exact aJ ω|exact dA ω|exact dO ω|exact rY (aN ω)|exact rY (dB ω)) ?_|((first|refine fQ ?_|(refine xex rfl ?_;refine dH (fu:=[(),(),(),(),(),(),(),()]) ?_)|(refine xco rfl ?_;refine kD (md:=[]) (fu:=[(),(),(),(),(),(),(),()]) ?_)|refine xpc ?_|refine xpb ?_|refine xpf ?_|refine xpe ?_|refine iL (fu:=[(),(),(),(),(),(),(),()]) aT [] 0 rfl κ ?_|refine iL (fu:=[(),(),(),(),(),(),(),()]) aT [] 1 rfl κ ?_|refine iL (fu:=[(),(),(),(),(),(),(),()]) aT [] 2 rfl κ ?_);refine bK ?_))
  repeat(first|refine xaz ?_|refine xav ?_|refine xb0 ?_|refine xax ?_|refine bY ?_|refine dI κ ?_|refine xaw rfl ?_|refine xay ?_|refine zX rfl ?_|refine zW rfl ?_|refine dR rfl (by first|exact aN ω|exact dB ω|exact dP ω|exact rZ (aJ ω)|exact rZ (dA ω)) ?_|refine dZ rfl (by first|exact aJ ω|exact dA ω|exact dO ω|exact rY (aN ω)|exact rY (dB ω)) ?_)
  refine tZ 2 true 1 rfl ?_;refine ret xqe [] ?_;(first|(simp only [go_sem];done)|(simp only [go_sem];((try dsimp only);(repeat' (refine And.intro ?_ ?_))<;>first|with_reducible rfl|(simp only [go_sem];done)|(simp only [go_sem];rfl)|(simp only [];(try simp only [go_sem]);first|done|rfl)|(simp only [go_sem];simp [];done)|(simp [];done)|rfl)))
theorem yho (L:List Int) (i:Nat) (h:i<(L.length+1) / 2) (hL:L.length≤20):Fnc Tryz.prog 94 [.int .i64 i,.rp (zT L)] (fun x obs=>x=.int .u32 (up L)[i]!∧obs=[]):=by
 have hu:=yx1 h;have h2:(2*(i:Int)).toNat=2*i:=ω;have h3:(2*(i:Int)+1).toNat=2*i+1:=ω;by_cases c:2*i+1=L.length
 ·rw [if_pos c] at hu
  refine aI xlm fun W S=>?_;refine aY h2 ?_;refine ret xlm [] ?_;(first|(simp only [go_sem];done)|(simp only [go_sem];((try dsimp only);(repeat' (refine And.intro ?_ ?_))<;>first|with_reducible rfl|(simp only [go_sem];done)|(simp only [go_sem];rfl)|(simp only [go_sem,hu];done)|(simp only [hu];(try simp only [go_sem]);first|done|rfl)|(simp only [go_sem];simp [hu];done)|(simp [hu];done)|rfl)))
 ·rw [if_neg c] at hu
  refine aI xlm fun W S=>?_
  repeat(first|(simp only [h2,h3];try simp only [go_sem])|refine And.intro ω ?_|refine And.intro rfl ?_|refine gJ rfl rfl ?_|refine bY ?_|refine dI κ ?_|(simp (disch:=omega) only [fJ,Nat.min_eq_left,Nat.min_eq_right,if_pos,if_neg,fF,bW,dU,fH,fM,fK,aN,aJ,dB,dA,dP,dO,Int.toNat_natCast];try simp only [go_sem])|(refine dR rfl ?_ ?_;·(simp<;>omega))|(refine dZ rfl ?_ ?_;·(simp<;>omega))|((first|refine fQ ?_|refine gK rfl ?_|refine mZ rfl ?_|refine jJ aT rfl κ ?_|refine jK aT rfl κ ?_|refine jL aT rfl κ ?_);simp only [go_sem]))
  refine kV (ymo L[2*i]! L[2*i+1]!) ?_;refine aA ?_;refine ret xlm [] ?_;(first|(simp only [go_sem];done)|(simp only [go_sem];((try dsimp only);(repeat' (refine And.intro ?_ ?_))<;>first|with_reducible rfl|(simp only [go_sem];done)|(simp only [go_sem];rfl)|(simp only [go_sem,hu];done)|(simp only [hu];(try simp only [go_sem]);first|done|rfl)|(simp only [go_sem];simp [hu];done)|(simp [hu];done)|rfl)))
def fil (L:List Int) (k:Nat):List Int:=(up L).take k++List.replicate ((L.length+1) / 2-k) 0
theorem yle (L:List Int):List.replicate ((L.length+1) / 2) (V.int .u32 0)=xhl (fil L 0):=by simp [fil]
theorem ylc {L:List Int} {k:Nat} (h:k≤(L.length+1) / 2):(fil L k).length=(L.length+1) / 2:=by
 have:=xjy L;simp only [fil,List.length_append,List.length_take,List.length_replicate];omega
theorem yld {L:List Int} {k:Nat} (h:k<(L.length+1) / 2):(fil L k).set k (up L)[k]! =fil L (k+1):=by
 have hl:=xjy L;obtain⟨c,hc⟩:∃c,(L.length+1) / 2-k=c+1:=⟨(L.length+1) / 2-k-1,ω⟩;have hc':(L.length+1) / 2-(k+1)=c:=ω;have ht:((up L).take k).length=k:=by rw [List.length_take];omega
 unfold fil;rw [hc,hc',List.replicate_succ,List.set_append_right _ _ ω,ht,Nat.sub_self,List.set_cons_zero,jG ω,List.append_assoc];rfl
theorem ylb (L:List Int):fil L ((L.length+1) / 2)=up L:=by
 unfold fil;rw [List.take_of_length_le (by rw [xjy];omega),Nat.sub_self];simp
attribute [local irreducible] fil up
theorem xti (L:List Int) (hL:L.length≤20):Fnc Tryz.prog 93 [.int .i64 L.length,.clo (.fn 94) [.rp (zT L)]] (fun x obs=>x=.own 0 0∧obs=[⟨.row 76,true,0,.arr 1 (xhl (up L))⟩]):=by
 have h1:(((L.length:Int)+1) / 2).toNat=(L.length+1) / 2:=ω;have hz:=yle L;refine aI xxy fun W S=>?_
 repeat(first|(simp only [h1,hz];try simp only [go_sem])|refine And.intro ω ?_|refine And.intro rfl ?_|refine gJ rfl rfl ?_|refine bY ?_|refine dI κ ?_|(simp (disch:=omega) only [fJ,Nat.min_eq_left,Nat.min_eq_right,if_pos,if_neg,fF,bW,dU,fH,fM,fK,aN,aJ,dB,dA,dP,dO,Int.toNat_natCast];try simp only [go_sem])|(refine dR rfl ?_ ?_;·(simp<;>omega))|(refine dZ rfl ?_ ?_;·(simp<;>omega))|((first|refine fQ ?_|refine gK rfl ?_|refine mZ rfl ?_|refine jJ aT rfl κ ?_|refine jK aT rfl κ ?_|refine jL aT rfl κ ?_);simp only [go_sem]))
 refine gY [1,5,12] (fun p:{p:Nat // p≤(L.length+1) / 2}=>[(13,.int .i64 p.1)]) (fun p=>[⟨.row 76,true,0,.arr 1 (xhl (fil L p.1))⟩]) (fun p=>(L.length+1) / 2-p.1) (⟨0,by simp⟩) 1 τ ?_ (by first|rfl|(simp only [go_sem];done)|(simp only [go_sem];simp [hz];done)) ξ φ φ (by first|rfl|(simp only [go_sem];done)|(simp only [hz];(try simp only [go_sem]);first|done|rfl)) ?_
 ·(simp only [go_sem];(try simp [hz]);done)
 intro J hJ
 rintro⟨k,hk0⟩
 have hfl:=ylc (L:=L) hk0;by_cases hlt:k<(L.length+1) / 2
 ·have hS:=yld (L:=L) hlt
  refine aA ?_;refine xdm (yho L k hlt hL) κ rfl ?_;simp only [go_sem];refine aA ?_;exact jH (hJ _ (⟨k+1,hlt⟩) ψ) hS
 ·obtain rfl:k=(L.length+1) / 2:=ω
  have he:=ylb L;rw [he];refine aA ?_;refine ret xxy [0] ?_;(first|(simp only [go_sem];done)|(simp only [go_sem];((try dsimp only);(repeat' (refine And.intro ?_ ?_))<;>first|with_reducible rfl|(simp only [go_sem];done)|(simp only [go_sem];rfl)|(simp only [];(try simp only [go_sem]);first|done|rfl)|(simp only [go_sem];simp [];done)|(simp [];done)|rfl)))
theorem ygk (l:List Int) (h1:1≤l.length) (h2:l.length≤20):Fnc Tryz.prog 37 [zT l] (fun x obs=>x=.tup [.agg [.sl false 1 ((iG l).map zT)],.int .i64 0]∧obs=[]):=by
 refine Fnc.low ?_;refine aI xdz fun W S=>?_;refine kV (xus l ω) ?_;refine aA ?_;refine gY [2,4] (fun p:{p:Nat // p≤dep l.length}=>[(5,dtV (dK l p.1))]) (fun p=>[⟨.box false 54,true,0,.agg [.nilS]⟩,⟨.row 130,true,p.1,.arr 1 ((xap l p.1).map dtV)⟩,⟨.box false 54,true,0,.agg [.own 1 p.1]⟩]) (fun p=>dep l.length-p.1) (⟨0,by simp⟩) 3 τ ?_ (by first|rfl|(simp only [go_sem];done)|(simp only [go_sem];simp [dK];done)) ξ φ φ (by first|rfl|(simp only [go_sem];done)|(simp only [dK];(try simp only [go_sem]);first|done|rfl)) ?_
 ·(simp only [go_sem];(try simp [dK]);done)
 intro J hJ
 rintro⟨k,hk0⟩
 have hll:=xct l k;have hd:=xpr h1 h2 hk0;have hle:=xil h1 k;rw [←hll] at hd hle;by_cases hlt:k<dep l.length
 ·have hs:=xu0 l k
  have hbl:=xk5 l k;have h5:=xkk l.length;have hlv:up (dK l k)=dK l (k+1):=rfl;refine aA ?_;refine xia 30 rfl rfl rfl ?_;refine oI (xti (dK l k) ω) ?_;refine xwb 5 rfl rfl ?_;refine aA ?_;exact zn3 (hJ _ (⟨k+1,hlt⟩) ψ) (And.intro hlv hs)
 ·obtain rfl:k=dep l.length:=ω
  refine aA ?_;refine ret xdz [] ?_;(first|(simp only [go_sem];done)|(simp only [go_sem];((try dsimp only);(repeat' (refine And.intro ?_ ?_))<;>first|with_reducible rfl|(simp only [go_sem];done)|(simp only [go_sem];rfl)|(simp only [go_sem,iG];done)|(simp only [iG];(try simp only [go_sem]);first|done|rfl)|(simp only [go_sem];simp [iG];done)|(simp [iG];done)|rfl)))
theorem ygj (l:List Int) (h:¬(1≤l.length∧l.length≤20)):Fnc Tryz.prog 37 [zT l] (fun x obs=>x=.tup [.agg [.nilS],.int .i64 1]∧obs=[]):=by
 refine Fnc.wf fun hw=>?_;simp only [V.wfs,V.wf,lW,List.length_map] at hw;have hm:=hw.1.2;clear hw;by_cases c:l.length=0
 ·skip
  refine aI xdz fun W S=>?_;refine ret xdz [] ?_;(first|(simp only [go_sem];done)|(simp only [go_sem];((try dsimp only);(repeat' (refine And.intro ?_ ?_))<;>first|with_reducible rfl|(simp only [go_sem];done)|(simp only [go_sem];rfl)|(simp only [];(try simp only [go_sem]);first|done|rfl)|(simp only [go_sem];simp [];done)|(simp [];done)|rfl)))
 ·skip
  refine aI xdz fun W S=>?_;refine ret xdz [] ?_;(first|(simp only [go_sem];done)|(simp only [go_sem];((try dsimp only);(repeat' (refine And.intro ?_ ?_))<;>first|with_reducible rfl|(simp only [go_sem];done)|(simp only [go_sem];rfl)|(simp only [];(try simp only [go_sem]);first|done|rfl)|(simp only [go_sem];simp [];done)|(simp [];done)|rfl)))
theorem xw2 (a b:List Int):Fnc Tryz.prog 97 [.sl false 1 (a.map (V.int .u32)),.sl false 1 (b.map (V.int .u32))] (fun x obs=>x=.bool (decide (a=b))∧obs=[]):=by
 refine Fnc.wf fun hw=>?_;simp only [V.wfs,V.wf,lW,List.length_map] at hw;have hm:=hw.1.2;have hm':=hw.2.1.2;by_cases hl:a.length=b.length
 ·skip
  refine aI xix fun W S=>?_;refine bI [0,1,12] (fun p:{p:Nat // p≤a.length∧a.take p=b.take p}=>[(13,.int .i64 p.1)]) (fun _=>[]) (fun p=>a.length-p.1) (⟨0,by simp⟩) 0 ?_;intro J hJ
  rintro⟨k,hk0,hk1⟩
  by_cases hlt:k<a.length
  ·by_cases e:a[k]! =b[k]!
   ·skip
    refine aA ?_;exact nP (hJ _ (⟨k+1,hlt,by rw [jG hlt,jG ω,hk1,e]⟩) ψ) hlt
   ·have hne:a≠b:=fun h=>e (xem h k)
    refine aA ?_;refine ret xix [] ?_;(first|(simp only [go_sem];done)|(simp only [go_sem];exact⟨rfl,rfl⟩))
  ·have hab:=xeu ω ω hk1
   refine aA ?_;refine ret xix [] ?_;(first|(simp only [go_sem];done)|(simp only [go_sem];exact⟨rfl,rfl⟩))
 ·have hne:a≠b:=fun h=>hl (by rw [h])
  refine aI xix fun W S=>?_;refine ret xix [] ?_;(first|(simp only [go_sem];done)|(simp only [go_sem];exact⟨rfl,rfl⟩))
theorem yjx (a b:List (List Int)):Fnc Tryz.prog 96 [.sl false 1 (a.map zT),.sl false 1 (b.map zT),.fn 97] (fun x obs=>x=.bool (decide (a=b))∧obs=[]):=by
 refine Fnc.wf fun hw=>?_;simp only [V.wfs,V.wf,List.length_map] at hw;have hm:=hw.1.2;have hm':=hw.2.1.2;clear hw;by_cases hl:a.length=b.length
 ·skip
  refine aI xiy fun W S=>?_;refine bI [1,2,15,16] (fun p:{p:Nat // p≤a.length∧a.take p=b.take p}=>[(17,.int .i64 p.1)]) (fun _=>[]) (fun p=>a.length-p.1) (⟨0,by simp⟩) 0 ?_;intro J hJ
  rintro⟨k,hk0,hk1⟩
  by_cases hlt:k<a.length
  ·by_cases e:a[k]! =b[k]!
   ·have hd:decide (a[k]! =b[k]!)=true:=aN e
    refine aA ?_;refine xdm (xw2 a[k]! b[k]!) κ rfl ?_;simp only [go_sem,hd];refine aA ?_;exact nP (hJ _ (⟨k+1,hlt,by rw [jG hlt,jG ω,hk1,e]⟩) ψ) hlt
   ·have hne:a≠b:=fun h=>e (xem h k)
    have hd:decide (a[k]! =b[k]!)=false:=aJ e;have hr:decide (a=b)=false:=aJ hne;refine aA ?_;refine xdm (xw2 a[k]! b[k]!) κ rfl ?_;simp only [go_sem,hd];refine aA ?_;refine ret xiy [] ?_;(first|(simp only [go_sem];done)|(simp only [go_sem];((try dsimp only);(repeat' (refine And.intro ?_ ?_))<;>first|with_reducible rfl|(simp only [go_sem];done)|(simp only [go_sem];rfl)|(simp only [go_sem,hr];done)|(simp only [hr];(try simp only [go_sem]);first|done|rfl)|(simp only [go_sem];simp [hr];done)|(simp [hr];done)|rfl)))
  ·have hab:=xeu ω ω hk1
   have hr:decide (a=b)=true:=aN hab;refine aA ?_;refine ret xiy [] ?_;(first|(simp only [go_sem];done)|(simp only [go_sem];((try dsimp only);(repeat' (refine And.intro ?_ ?_))<;>first|with_reducible rfl|(simp only [go_sem];done)|(simp only [go_sem];rfl)|(simp only [go_sem,hr];done)|(simp only [hr];(try simp only [go_sem]);first|done|rfl)|(simp only [go_sem];simp [hr];done)|(simp [hr];done)|rfl)))
 ·have hne:a≠b:=fun h=>hl (by rw [h])
  have hr:decide (a=b)=false:=aJ hne;refine aI xiy fun W S=>?_;refine ret xiy [] ?_;(first|(simp only [go_sem];done)|(simp only [go_sem];((try dsimp only);(repeat' (refine And.intro ?_ ?_))<;>first|with_reducible rfl|(simp only [go_sem];done)|(simp only [go_sem];rfl)|(simp only [go_sem,hr];done)|(simp only [hr];(try simp only [go_sem]);first|done|rfl)|(simp only [go_sem];simp [hr];done)|(simp [hr];done)|rfl)))
def uX (L:List (List Int)):Bool:=decide (1≤L.length) && (decide (1≤L[0]!.length) && (decide (L[0]!.length≤20) && decide (iG L[0]! =L)))
theorem yf7 {l:List Int} (h1:1≤l.length) (h2:l.length≤20):uX (iG l)=true:=by
 unfold uX;rw [xo8,xk4,aN ω,aN h1,aN h2,aN rfl];rfl
theorem yf8 {L:List (List Int)} (h:uX L=true):1≤L.length∧1≤L[0]!.length∧L[0]!.length≤20∧iG L[0]! =L:=by
 simpa [uX,Bool.and_eq_true] using h
theorem xt7 (L:List (List Int)):Fnc Tryz.prog 38 [.agg [.sl false 1 (L.map zT)]] (fun x obs=>x=.bool (uX L)∧obs=[]):=by
 refine Fnc.wf fun hw=>?_;simp only [V.wfs,V.wf,List.length_map] at hw;have hm:=hw.1.1.2;clear hw;by_cases c0:L.length=0
 ·have hr:uX L=false:=by unfold uX;rw [aJ ω];rfl
  refine aI xgx fun W S=>?_;refine ret xgx [] ?_;(first|(simp only [go_sem];done)|(simp only [go_sem];((try dsimp only);(repeat' (refine And.intro ?_ ?_))<;>first|with_reducible rfl|(simp only [go_sem];done)|(simp only [go_sem];rfl)|(simp only [go_sem,hr];done)|(simp only [hr];(try simp only [go_sem]);first|done|rfl)|(simp only [go_sem];simp [hr];done)|(simp [hr];done)|rfl)))
 by_cases c1:1≤L[0]!.length∧L[0]!.length≤20
 ·have hr:uX L=decide (iG L[0]! =L):=by unfold uX;rw [aN ω,aN c1.1,aN c1.2];rfl
  have hB:=ygk L[0]! c1.1 c1.2;refine aI xgx fun W S=>?_;refine kV (hB) ?_;refine aA ?_;refine kV (yjx (iG L[0]!) L) ?_;refine aA ?_;refine ret xgx [] ?_;(first|(simp only [go_sem];done)|(simp only [go_sem];((try dsimp only);(repeat' (refine And.intro ?_ ?_))<;>first|with_reducible rfl|(simp only [go_sem];done)|(simp only [go_sem];rfl)|(simp only [go_sem,hr];done)|(simp only [hr];(try simp only [go_sem]);first|done|rfl)|(simp only [go_sem];simp [hr];done)|(simp [hr];done)|rfl)))
 ·have hr:uX L=false:=by
   unfold uX;by_cases c2:1≤L[0]!.length
   ·rw [aN ω,aN c2,aJ (fun h=>c1 ⟨c2,h⟩)];rfl
   ·rw [aN ω,aJ c2];rfl
  have hB:=ygj L[0]! c1;refine aI xgx fun W S=>?_;refine kV (hB) ?_;refine aA ?_;refine ret xgx [] ?_;(first|(simp only [go_sem];done)|(simp only [go_sem];((try dsimp only);(repeat' (refine And.intro ?_ ?_))<;>first|with_reducible rfl|(simp only [go_sem];done)|(simp only [go_sem];rfl)|(simp only [go_sem,hr];done)|(simp only [hr];(try simp only [go_sem]);first|done|rfl)|(simp only [go_sem];simp [hr];done)|(simp [hr];done)|rfl)))
end Go.Proofs.YthmjocibdepahaaGreat
namespace Go.Proofs.YthmjocibdepahaaGreat
open Go Go.RowKit Rdn Rdn.Dp
def xyr:=zcs 12
attribute [local irreducible] iG dK uX
abbrev zF (L:List (List Int)):V:=.agg [.sl false 1 (L.map zT)]
def nI (L:List Nat):List Int:=L.map fun n:Nat=>(n:Int)
theorem xmc (L:List Nat):(nI L).length=L.length:=by simp [nI]
theorem yar {L:List Nat} {k:Nat} (h:k<L.length):(nI L)[k]! =(L[k]!:Int):=by simp [nI,h]
theorem yiw {x y:List Int} {L:List Nat} {q:Nat} (h:q<L.length):dif x y (L.take (q+1))=if x[L[q]!]! =y[L[q]!]! then dif x y (L.take q) else dif x y (L.take q)++[L[q]!]:=by
 rw [jG h];unfold dif;rw [List.filter_append];by_cases c:x[L[q]!]! =y[L[q]!]!
 ·rw [if_pos c,List.filter_cons_of_neg (by show ¬(decide (_≠_)=true);rw [aJ (fun h=>h c)];exact Bool.false_ne_true),List.filter_nil,List.append_nil]
 ·rw [if_neg c,List.filter_cons_of_pos (by show decide (_≠_)=true;exact aN c),List.filter_nil]
theorem xov (x y:List Int):dif x y []=[]:=rfl
theorem xop (w:Nat):chl w []=[]:=rfl
theorem xvx (l m:List Int):dst l m 0=([0],0):=rfl
theorem nI_one:bH (nI [0])=[V.int .i64 0]:=rfl
theorem xh1:nI []=[]:=rfl
theorem yas (L:List Nat) (x:Nat):bH (nI L)++[V.int .i64 (x:Int)]=bH (nI (L++[x])):=by simp [nI]
theorem ch1_lt {w i p:Nat}:p<(kJ w i).length↔p≤1∧2*i+p<w:=by
 unfold kJ;split<;>split<;>simp<;>omega
theorem yhc {w i p:Nat} (h:p<(kJ w i).length):(kJ w i)[p]! =2*i+p:=by
 have h':=ch1_lt.1 h;have hp:p=0∨p=1:=ω;unfold kJ;rcases hp with rfl|rfl
 ·rw [if_pos ω];rfl
 ·rw [if_pos ω,if_pos ω];rfl
theorem yhd (w i:Nat):(kJ w i).length≤2:=by unfold kJ;split<;>split<;>simp
theorem yiu {x y:List Int} (L:List Nat) (q:Nat):(dif x y (L.take q)).length≤L.length:=by
 have:=List.length_filter_le (fun i=>decide (x[i]!≠y[i]!)) (L.take q);rw [List.length_take] at this;unfold dif;omega
theorem yhh {w:Nat} {d:List Nat} {q:Nat} (h:q<d.length):chl w (d.take (q+1))=chl w (d.take q)++kJ w d[q]!:=by
 rw [jG h];unfold chl;rw [List.flatMap_append];simp
theorem yjo (l m:List Int) (p:Nat):dst l m (p+1)=(chl (dK l (dep l.length-p-1)).length (dif (dK l (dep l.length-p)) (dK m (dep l.length-p)) (dst l m p).1),(dst l m p).2+(dst l m p).1.length):=rfl
theorem xvw {l m:List Int} (h1:1≤l.length) (h2:l.length≤20):∀{p:Nat},p≤dep l.length→(dst l m p).2≤20*p
 |0,_=>Nat.le_refl _
 |p+1,hp=>by
  have:=xvw h1 h2 (m:=m) (p:=p) ω;have:=(xko (m:=m) h1 h2 (p:=p) ω).len;have:=xil h1 (dep l.length-p);rw [yjp];omega
attribute [local irreducible] nI dif chl dst kJ xcn xg7
theorem yix (l m:List Int) (h1:1≤l.length) (h2:l.length≤20) (hm:m.length=l.length):Fnc Tryz.prog 12 [zF (iG l),zF (iG m)] (fun x obs=>x=.tup [.sl false 1 (bH (nI (xcn l m))),.int .i64 (xg7 l m),.int .i64 0]∧obs=[]):=by
 refine Fnc.low ?_;have hv:=xt7 (iG l);rw [yf7 h1 h2] at hv;have hv':=xt7 (iG m);rw [yf7 ω ω] at hv';have hl:=xk4 l;have hz:=xo8 l;have hl':=xk4 m;have hz':=xo8 m;rw [hm] at hl';have h5:=xkk l.length;refine aI xyr fun W S=>?_;refine kV (hv) ?_;refine aA ?_;refine bZ (hv') ?_
 repeat(first|(simp only [hz,hz'];try simp only [go_sem])|refine And.intro ω ?_|refine And.intro rfl ?_|refine gJ rfl rfl ?_|refine bY ?_|refine dI κ ?_|(simp (disch:=omega) only [fJ,Nat.min_eq_left,Nat.min_eq_right,if_pos,if_neg,fF,bW,dU,fH,fM,fK,aN,aJ,dB,dA,dP,dO,Int.toNat_natCast];try simp only [go_sem])|(refine dR rfl ?_ ?_;·(simp<;>omega))|(refine dZ rfl ?_ ?_;·(simp<;>omega))|((first|refine fQ ?_|refine gK rfl ?_|refine mZ rfl ?_|refine jJ aT rfl κ ?_|refine jK aT rfl κ ?_|refine jL aT rfl κ ?_);simp only [go_sem]))
 refine xpa 8 rfl rfl ?_;have e0:[V.int .i64 0]=bH (nI (dst l m 0).1):=by rw [xvx];exact nI_one.symm
 have e1:((dst l m 0).2:Int)=0:=by rw [xvx];rfl
 have e2:((iG l).length:Int)-1=((dep l.length-0:Nat):Int):=ω;refine gY [2,3] (fun p:{p:Nat // p≤dep l.length}=>[(7,.int .i64 ((dst l m p.1).2:Nat)),(8,.sl true 1 (bH (nI (dst l m p.1).1))),(9,.int .i64 ((dep l.length-p.1:Nat):Int))]) (fun _=>[⟨.box false 54,true,0,zF (iG l)⟩,⟨.box false 54,true,0,zF (iG m)⟩]) (fun p=>dep l.length-p.1) (⟨0,by simp⟩) 2 τ ?_ (by first|rfl|(simp only [go_sem];done)|(simp only [go_sem];simp [e0,e1,e2];done)) ξ φ φ (by first|rfl|(simp only [go_sem];done)|(simp only [e0,e1,e2];(try simp only [go_sem]);first|done|rfl)) ?_
 ·(simp only [go_sem];(try simp [e0,e1,e2]);done)
 intro J hJ
 rintro⟨p,hp⟩
 have ha:=xko (m:=m) h1 h2 hp;have hL:=ha.len;have hlK:=xht l (k:=dep l.length-p) ω;have hmK:=xht m (k:=dep l.length-p) (by rw [hm];omega);have hlw:=xct l (dep l.length-p);have hmw:=xct m (dep l.length-p);rw [hm] at hmw;obtain⟨K,hK⟩:∃K,dep l.length-p=K:=⟨_,rfl⟩;rw [hK] at hlK hmK hlw hmw ha hL;have hres:p=dep l.length→xcn l m=dif (dK l K) (dK m K) (dst l m p).1∧(xg7 l m:Int)=(dst l m p).2+(dst l m p).1.length:=fun e=>by
  subst e;obtain rfl:K=0:=ω;exact⟨yjk l m,by rw [yj1,Int.natCast_add]⟩
 have hnx:dst l m (p+1)=(chl (dK l (K-1)).length (dif (dK l K) (dK m K) (dst l m p).1),(dst l m p).2+(dst l m p).1.length):=by
  rw [←hK];exact yjo l m p
 have hn:(dst l m p).2≤100:=Nat.le_trans (xvw h1 h2 hp) ω;generalize dst l m p=r at ha hL hres hnx hn;obtain⟨L,n⟩:=r;dsimp only at ha hL hres hnx hn⊢;rw [hK];have hle:=xil h1 K;have hLl:(nI L).length=L.length:=xmc L;have hJ0:=hJ;refine aA ?_;refine pW (i:=10) (e:=3) (s:=1) rfl δ ?_;refine aA ?_;refine gY [2,3,9,46,47] (fun q:{q:Nat // q≤L.length}=>[(7,.int .i64 ((n:Int)+q.1)),(10,.own 2 (dif (dK l K) (dK m K) (L.take q.1)).length),(48,.int .i64 q.1)]) (fun q=>[⟨.box false 54,true,0,zF (iG l)⟩,⟨.box false 54,true,0,zF (iG m)⟩,⟨.row 3,true,(dif (dK l K) (dK m K) (L.take q.1)).length,.arr 1 (bH (nI (dif (dK l K) (dK m K) (L.take q.1))))⟩]) (fun q=>L.length-q.1) (⟨0,by simp⟩) 3 τ ?_ (by first|rfl|(simp only [go_sem];done)|(simp only [go_sem];simp [xov,xh1];done)) ξ φ φ (by first|rfl|(simp only [go_sem];done)|(simp only [xov,xh1];(try simp only [go_sem]);first|done|rfl)) ?_
 ·(simp only [go_sem];(try simp [xov,xh1]);done)
 intro J hJ
 rintro⟨q,hq⟩
 by_cases hlt:q<L.length
 ·have hx:=yar (L:=L) (k:=q) hlt
  have hd:=yiw (x:=dK l K) (y:=dK m K) (L:=L) (q:=q) hlt;have hi:=ha.2 L[q]! (kE hlt);have fV:=yiu (x:=dK l K) (y:=dK m K) L q;obtain⟨i,hiq⟩:∃i,L[q]! =i:=⟨_,rfl⟩;rw [hiq] at hx hd hi;by_cases c:(dK l K)[i]! =(dK m K)[i]!
  ·rw [if_pos c] at hd
   repeat(first|(simp only [hx,hlK,hmK];try simp only [go_sem])|refine And.intro ω ?_|refine And.intro rfl ?_|refine gJ rfl rfl ?_|refine bY ?_|refine dI κ ?_|(simp (disch:=omega) only [fJ,Nat.min_eq_left,Nat.min_eq_right,if_pos,if_neg,fF,bW,dU,fH,fM,fK,aN,aJ,dB,dA,dP,dO,Int.toNat_natCast];try simp only [go_sem])|(refine dR rfl ?_ ?_;·(simp<;>omega))|(refine dZ rfl ?_ ?_;·(simp<;>omega))|((first|refine fQ ?_|refine gK rfl ?_|refine mZ rfl ?_|refine jJ aT rfl κ ?_|refine jK aT rfl κ ?_|refine jL aT rfl κ ?_);simp only [go_sem]))
   refine lI 3 (hJ _ (⟨q+1,hlt⟩) ψ) rfl ξ ?_ φ (by first|rfl|(simp only [go_sem];done)|(simp only [hd,Int.natCast_add];(try simp only [go_sem]);first|done|rfl)) ?_
   ·(first|rfl|(simp only [go_sem];done)|(simp only [go_sem];simp only [hd,Int.natCast_add];done)|(simp only [hd,Int.natCast_add];done)|(simp only [go_sem];simp [hd,Int.natCast_add];done)|(simp [hd,Int.natCast_add];done))
   ·(simp only [go_sem];(repeat' (refine And.intro ?_ ?_))<;>first|exact trivial|with_reducible rfl|(simp only [hd,Int.natCast_add];done)|(simp only [hd,Int.natCast_add];with_reducible rfl)|(simp [hd,Int.natCast_add];done)|(simp [hd,Int.natCast_add];omega)|(simp only [hd,Int.natCast_add];rfl)|skip)
  ·rw [if_neg c] at hd
   have hs:=yas (dif (dK l K) (dK m K) (L.take q)) i;have hnl:=xmc (dif (dK l K) (dK m K) (L.take q))
   repeat(first|(simp only [hx,hlK,hmK];try simp only [go_sem])|refine And.intro ω ?_|refine And.intro rfl ?_|refine gJ rfl rfl ?_|refine bY ?_|refine dI κ ?_|(simp (disch:=omega) only [fJ,Nat.min_eq_left,Nat.min_eq_right,if_pos,if_neg,fF,bW,dU,fH,fM,fK,aN,aJ,dB,dA,dP,dO,Int.toNat_natCast];try simp only [go_sem])|(refine dR rfl ?_ ?_;·(simp<;>omega))|(refine dZ rfl ?_ ?_;·(simp<;>omega))|((first|refine fQ ?_|refine gK rfl ?_|refine mZ rfl ?_|refine jJ aT rfl κ ?_|refine jK aT rfl κ ?_|refine jL aT rfl κ ?_);simp only [go_sem]))
   refine lI 3 (hJ _ (⟨q+1,hlt⟩) ψ) rfl ξ ?_ φ (by first|rfl|(simp only [go_sem];done)|(simp only [hd,hs,Int.natCast_add];(try simp only [go_sem]);first|done|rfl)) ?_
   ·(first|rfl|(simp only [go_sem];done)|(simp only [go_sem];simp only [hd,hs,Int.natCast_add];done)|(simp only [hd,hs,Int.natCast_add];done)|(simp only [go_sem];simp [hd,hs,Int.natCast_add];done)|(simp [hd,hs,Int.natCast_add];done))
   ·(simp only [go_sem];(repeat' (refine And.intro ?_ ?_))<;>first|exact trivial|with_reducible rfl|(simp only [hd,hs,Int.natCast_add];done)|(simp only [hd,hs,Int.natCast_add];with_reducible rfl)|(simp [hd,hs,Int.natCast_add];done)|(simp [hd,hs,Int.natCast_add];omega)|(simp only [hd,hs,Int.natCast_add];rfl)|skip)
 ·obtain rfl:q=L.length:=ω
  rw [List.take_length];have hJ:=hJ0
  repeat(first|refine xaz ?_|refine xav ?_|refine xb0 ?_|refine xax ?_|refine bY ?_|refine dI κ ?_|refine xaw rfl ?_|refine xay ?_|refine zX rfl ?_|refine zW rfl ?_|refine dR rfl (by first|exact aN ω|exact dB ω|exact dP ω|exact rZ (aJ ω)|exact rZ (dA ω)) ?_|refine dZ rfl (by first|exact aJ ω|exact dA ω|exact dO ω|exact rY (aN ω)|exact rY (dB ω)) ?_)
  refine xpa 10 rfl rfl ?_;by_cases cK:K=0
  ·obtain⟨r1,r2⟩:=hres ω
   refine aA ?_;refine ret xyr [] ?_;(first|(simp only [go_sem];done)|(simp only [go_sem];((try dsimp only);(repeat' (refine And.intro ?_ ?_))<;>first|with_reducible rfl|(simp only [go_sem];done)|(simp only [go_sem];rfl)|(simp only [go_sem,r1,r2];done)|(simp only [r1,r2];(try simp only [go_sem]);first|done|rfl)|(simp only [go_sem];simp [r1,r2];done)|(simp [r1,r2];done)|rfl)))
  ·have hwK:=xht l (k:=K-1) ω
   have hcK:((K:Int)-1).toNat=K-1:=ω;have hK1:(K:Int)-1=((dep l.length-(p+1):Nat):Int):=ω;obtain⟨w,hw⟩:∃w,(dK l (K-1)).length=w:=⟨_,rfl⟩;have hw20:=xct l (K-1);have hle1:=xil h1 (K-1);rw [hw] at hnx hw20;have had:=ha.dif (dK l K) (dK m K);obtain⟨D,hD⟩:∃D,dif (dK l K) (dK m K) L=D:=⟨_,rfl⟩;rw [hD] at hnx had⊢;have hDl:=xmc D;have hD20:=had.len;have hJ1:=hJ;refine aA ?_;refine pW (i:=8) (e:=3) (s:=1) rfl δ ?_;refine gY [2,3,7,9,80,81] (fun q:{q:Nat // q≤D.length}=>[(8,.own 3 (chl w (D.take q.1)).length),(82,.int .i64 q.1)]) (fun q=>[⟨.box false 54,true,0,zF (iG l)⟩,⟨.box false 54,true,0,zF (iG m)⟩,⟨.row 3,false,D.length,.arr 1 (bH (nI D))⟩,⟨.row 3,true,(chl w (D.take q.1)).length,.arr 1 (bH (nI (chl w (D.take q.1))))⟩]) (fun q=>D.length-q.1) (⟨0,by simp⟩) 4 τ ?_ (by first|rfl|(simp only [go_sem];done)|(simp only [go_sem];simp [xop,xh1];done)) ξ φ φ (by first|rfl|(simp only [go_sem];done)|(simp only [xop,xh1];(try simp only [go_sem]);first|done|rfl)) ?_
   ·(simp only [go_sem];(try simp [xop,xh1]);done)
   intro J hJ
   rintro⟨q,hq⟩
   by_cases hlt:q<D.length
   ·have hx:=yar (L:=D) (k:=q) hlt
    have hs:=yhh (w:=w) hlt;have hi:=had.2 D[q]! (kE hlt);obtain⟨i,hiq⟩:∃i,D[q]! =i:=⟨_,rfl⟩;rw [hiq] at hx hs hi;have hc2:=yhd w i;have hcl:=xup w (D.take q);rw [List.length_take] at hcl;have hJ2:=hJ;refine aY hx ?_;have z1:chl w (D.take q)=chl w (D.take q)++(kJ w i).take 0:=by simp
    refine gY [2,3,7,9,14,80,81,82] (fun e:{e:Nat // e≤(kJ w i).length}=>[(8,.own 3 (chl w (D.take q)++(kJ w i).take e.1).length),(15,.int .i64 (2*(i:Int)+e.1))]) (fun e=>[⟨.box false 54,true,0,zF (iG l)⟩,⟨.box false 54,true,0,zF (iG m)⟩,⟨.row 3,false,D.length,.arr 1 (bH (nI D))⟩,⟨.row 3,true,(chl w (D.take q)++(kJ w i).take e.1).length,.arr 1 (bH (nI (chl w (D.take q)++(kJ w i).take e.1)))⟩]) (fun e=>(kJ w i).length-e.1) (⟨0,by simp⟩) 4 τ ?_ (by first|rfl|(simp only [go_sem];done)|(simp only [go_sem];simp [List.append_nil,List.take_zero];done)) ξ φ φ (by first|rfl|(simp only [go_sem];done)|(simp only [List.append_nil,List.take_zero];(try simp only [go_sem]);first|done|rfl)) ?_
    ·(simp only [go_sem];(try simp [List.append_nil,List.take_zero]);done)
    intro J hJ
    rintro⟨e,he⟩
    have hel:=ch1_lt (w:=w) (i:=i) (p:=e);by_cases hlt2:e<(kJ w i).length
    ·have hel:=hel.1 hlt2
     have hat:=yhc hlt2;have htk:=jG hlt2;rw [hat] at htk;have hns:=yas (chl w (D.take q)++(kJ w i).take e) (2*i+e);rw [List.append_assoc,←htk,show((2*i+e:Nat):Int)=2*(i:Int)+e by omega] at hns;have hnl:=xmc (chl w (D.take q)++(kJ w i).take e);have hgl:(chl w (D.take q)++(kJ w i).take (e+1)).length=(chl w (D.take q)++(kJ w i).take e).length+1:=by rw [htk,←List.append_assoc,List.length_append (bs:=[_])];rfl
     have h15:2*(i:Int)+(e:Int)+1=2*(i:Int)+((e+1:Nat):Int):=ω;have hnl2:(chl w (D.take q)++(kJ w i).take e).length≤100:=by rw [List.length_append,List.length_take];omega
     repeat(first|(simp only [hcK,hwK,hw];try simp only [go_sem])|refine And.intro ω ?_|refine And.intro rfl ?_|refine gJ rfl rfl ?_|refine bY ?_|refine dI κ ?_|(simp (disch:=omega) only [fJ,Nat.min_eq_left,Nat.min_eq_right,if_pos,if_neg,fF,bW,dU,fH,fM,fK,aN,aJ,dB,dA,dP,dO,Int.toNat_natCast];try simp only [go_sem])|(refine dR rfl ?_ ?_;·(simp<;>omega))|(refine dZ rfl ?_ ?_;·(simp<;>omega))|((first|refine fQ ?_|refine gK rfl ?_|refine mZ rfl ?_|refine jJ aT rfl κ ?_|refine jK aT rfl κ ?_|refine jL aT rfl κ ?_);simp only [go_sem]))
     exact zn4 (hJ _ (⟨e+1,hlt2⟩) ψ) (And.intro hns (And.intro hgl (And.intro h15 (Nat.min_eq_left he))))
    ·have hel:¬(e≤1∧2*i+e<w):=fun h=>hlt2 (hel.2 h)
     obtain rfl:e=(kJ w i).length:=ω;dsimp only;rw [List.take_length,←hs];have hJ:=hJ2;by_cases e1:(kJ w i).length≤1
     ·skip
      repeat(first|(simp only [hcK,hwK,hw];try simp only [go_sem])|refine And.intro ω ?_|refine And.intro rfl ?_|refine gJ rfl rfl ?_|refine bY ?_|refine dI κ ?_|(simp (disch:=omega) only [fJ,Nat.min_eq_left,Nat.min_eq_right,if_pos,if_neg,fF,bW,dU,fH,fM,fK,aN,aJ,dB,dA,dP,dO,Int.toNat_natCast];try simp only [go_sem])|(refine dR rfl ?_ ?_;·(simp<;>omega))|(refine dZ rfl ?_ ?_;·(simp<;>omega))|((first|refine fQ ?_|refine gK rfl ?_|refine mZ rfl ?_|refine jJ aT rfl κ ?_|refine jK aT rfl κ ?_|refine jL aT rfl κ ?_);simp only [go_sem]))
      refine lI 4 (hJ _ (⟨q+1,hlt⟩) ψ) rfl ξ ?_ φ φ ?_
      ·(first|rfl|(simp only [go_sem];done)|(simp only [go_sem];simp only [];done)|(simp only [];done)|(simp only [go_sem];simp [];done)|(simp [];done))
      ·(simp only [go_sem];(repeat' (refine And.intro ?_ ?_))<;>first|exact trivial|with_reducible rfl|(simp only [];done)|(simp only [];with_reducible rfl)|(simp [];done)|(simp [];omega)|(simp only [];rfl)|skip)
     ·skip
      repeat(first|(simp only [hcK,hwK,hw];try simp only [go_sem])|refine And.intro ω ?_|refine And.intro rfl ?_|refine gJ rfl rfl ?_|refine bY ?_|refine dI κ ?_|(simp (disch:=omega) only [fJ,Nat.min_eq_left,Nat.min_eq_right,if_pos,if_neg,fF,bW,dU,fH,fM,fK,aN,aJ,dB,dA,dP,dO,Int.toNat_natCast];try simp only [go_sem])|(refine dR rfl ?_ ?_;·(simp<;>omega))|(refine dZ rfl ?_ ?_;·(simp<;>omega))|((first|refine fQ ?_|refine gK rfl ?_|refine mZ rfl ?_|refine jJ aT rfl κ ?_|refine jK aT rfl κ ?_|refine jL aT rfl κ ?_);simp only [go_sem]))
      refine lI 4 (hJ _ (⟨q+1,hlt⟩) ψ) rfl ξ ?_ φ φ ?_
      ·(first|rfl|(simp only [go_sem];done)|(simp only [go_sem];simp only [];done)|(simp only [];done)|(simp only [go_sem];simp [];done)|(simp [];done))
      ·(simp only [go_sem];(repeat' (refine And.intro ?_ ?_))<;>first|exact trivial|with_reducible rfl|(simp only [];done)|(simp only [];with_reducible rfl)|(simp [];done)|(simp [];omega)|(simp only [];rfl)|skip)
   ·obtain rfl:q=D.length:=ω
    rw [List.take_length];have hJ:=hJ1
    repeat(first|refine xaz ?_|refine xav ?_|refine xb0 ?_|refine xax ?_|refine bY ?_|refine dI κ ?_|refine xaw rfl ?_|refine xay ?_|refine zX rfl ?_|refine zW rfl ?_|refine dR rfl (by first|exact aN ω|exact dB ω|exact dP ω|exact rZ (aJ ω)|exact rZ (dA ω)) ?_|refine dZ rfl (by first|exact aJ ω|exact dA ω|exact dO ω|exact rY (aN ω)|exact rY (dB ω)) ?_)
    refine xpa 8 rfl rfl ?_;refine aA ?_;refine lI 2 (hJ _ (⟨p+1,ω⟩) ψ) rfl ξ ?_ φ (by first|rfl|(simp only [go_sem];done)|(simp only [hnx,hK1,Int.natCast_add];(try simp only [go_sem]);first|done|rfl)) ?_
    ·(first|rfl|(simp only [go_sem];done)|(simp only [go_sem];simp only [hnx,hK1,Int.natCast_add];done)|(simp only [hnx,hK1,Int.natCast_add];done)|(simp only [go_sem];simp [hnx,hK1,Int.natCast_add];done)|(simp [hnx,hK1,Int.natCast_add];done))
    ·(simp only [go_sem];(repeat' (refine And.intro ?_ ?_))<;>first|exact trivial|with_reducible rfl|(simp only [hnx,hK1,Int.natCast_add];done)|(simp only [hnx,hK1,Int.natCast_add];with_reducible rfl)|(simp [hnx,hK1,Int.natCast_add];done)|(simp [hnx,hK1,Int.natCast_add];omega)|(simp only [hnx,hK1,Int.natCast_add];rfl)|skip)
end Go.Proofs.YthmjocibdepahaaGreat
namespace Go.Proofs.YthmjocibdepahaaGreat
open Go Go.RowKit Rdn Rdn.Dp
def xlz:=aC 18
attribute [local irreducible] iG dK uX xcn xg7 xbq
def xfl (L:List (List Int)):Int:=if uX L=true then(L[L.length-1]!)[0]! else 0
theorem ywp {L:List (List Int)} (h:uX L=true):1≤(L[L.length-1]!).length:=by
 obtain⟨h1,h2,h3,h4⟩:=yf8 h;rw [←h4,xk4,Nat.add_sub_cancel,xht _ (Nat.le_refl _),xct,xx3 h2 h3];exact Nat.le_refl _
theorem ycw (L:List (List Int)):Fnc Tryz.prog 18 [zF L] (fun x obs=>x=.int .u32 (xfl L)∧obs=[]):=by
 refine Fnc.wf fun hw=>?_;simp only [V.wfs,V.wf,List.length_map] at hw;have hm:=hw.1.1.2;clear hw;have hv:=xt7 L;by_cases c:uX L=true
 ·have ht:=ywp c
  have hl:=(yf8 c).1;have hr:xfl L=(L[L.length-1]!)[0]!:=if_pos c;have hi:((L.length:Int)-1).toNat=L.length-1:=ω;rw [c] at hv;refine aI xlz fun W S=>?_;refine bZ (hv) ?_;refine aY hi ?_;refine ret xlz [] ?_;(first|(simp only [go_sem];done)|(simp only [go_sem];((try dsimp only);(repeat' (refine And.intro ?_ ?_))<;>first|with_reducible rfl|(simp only [go_sem];done)|(simp only [go_sem];rfl)|(simp only [go_sem,hr];done)|(simp only [hr];(try simp only [go_sem]);first|done|rfl)|(simp only [go_sem];simp [hr];done)|(simp [hr];done)|rfl)))
 ·have hr:xfl L=0:=if_neg c
  rw [Bool.not_eq_true] at c;rw [c] at hv;refine aI xlz fun W S=>?_;refine kV (hv) ?_;refine aA ?_;refine ret xlz [] ?_;(first|(simp only [go_sem];done)|(simp only [go_sem];((try dsimp only);(repeat' (refine And.intro ?_ ?_))<;>first|with_reducible rfl|(simp only [go_sem];done)|(simp only [go_sem];rfl)|(simp only [go_sem,hr];done)|(simp only [hr];(try simp only [go_sem]);first|done|rfl)|(simp only [go_sem];simp [hr];done)|(simp [hr];done)|rfl)))
attribute [local irreducible] xfl
end Go.Proofs.YthmjocibdepahaaGreat
