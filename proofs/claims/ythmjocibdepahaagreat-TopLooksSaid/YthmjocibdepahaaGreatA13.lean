import Derived.Test.YthmjocibdepahaaGreatA12
import Derived.Test.YthmjocibdepahaaGreatA11
set_option linter.defProp false
set_option linter.unusedSimpArgs false
set_option linter.unusedVariables false
set_option maxHeartbeats 64000000
set_option maxRecDepth 100000
namespace Go.Proofs.YthmjocibdepahaaGreat
open Go Go.RowKit Rdn Rdn.Dp
def xm2:=aC 173
def xc2:=aC 226
def xnf (m:Nat) (l:List Output):Prop:=∀o∈l,o.data.length≤m
theorem xjv (l:List Output) (hb:l.length≤1000000000) (hd:xnf 1000000000 l):Fnc Tryz.prog 173 [.sl false 3 (l.map (wL false))] (fun x obs=>x=.own 0 0∧obs=[⟨.row 271,true,0,.arr 3 (l.map (wL true))⟩]):=by
 refine aI xm2 fun W S=>?_;refine pW (i:=3) (e:=271) (s:=3) rfl δ ?_;refine bI [6,7] (fun p:{p:Nat // p≤l.length}=>[(3,.own 0 p.1),(8,.int .i64 p.1)]) (fun p=>[⟨.row 271,true,p.1,.arr 3 ((l.take p.1).map (wL true))⟩]) (fun p=>l.length-p.1) (⟨0,by simp⟩) 1 ?_;intro J hJ
 rintro⟨k,hk0⟩
 by_cases hlt:k<l.length
 ·have hdk:l[k]!.data.length≤1000000000:=hd _ (kE hlt)
  have htl:(l.take k).length=k:=by simp;omega
  refine aA ?_;exact jH (hJ _ (⟨k+1,hlt⟩) ψ) (jG hlt)
 ·obtain rfl:k=l.length:=ω
  refine aA ?_;refine ret xm2 [0] ?_;(first|(simp only [go_sem];done)|(simp only [go_sem];((try dsimp only);(repeat' (refine And.intro ?_ ?_))<;>first|with_reducible rfl|(simp only [go_sem];done)|(simp only [go_sem];rfl)|(simp only [go_sem,List.take_length];done)|(simp only [List.take_length];(try simp only [go_sem]);first|done|rfl)|(simp only [go_sem];simp [List.take_length];done)|(simp [List.take_length];done)|rfl)))
def jS (l:List Output) (s:Int) (d:List Canon):List Output×Int×Bool:=
 if s<0∨s≥2∨l.length≥200∨d.length>16 then(l,0,false) else(l++[⟨l.length,s,d⟩],d.length,true)
theorem ytd (l:List Output) (s:Int) (d:List Canon) (hb:l.length≤1000000000) (hd:xnf 1000000000 l) (hdd:d.length≤1000000000):Fnc Tryz.prog 226 [.sl false 3 (l.map (wL false)),.int .i64 s,.sl false 4 (d.map aS)] (fun x obs=>x=.tup [.sl false 3 ((jS l s d).1.map (wL false)),.int .i64 (jS l s d).2.1,.bool (jS l s d).2.2]∧obs=[]):=by
 refine Fnc.low ?_;by_cases c1:s<0
 ·have e:jS l s d=(l,0,false):=by rw [jS,if_pos (.inl c1)]
  rw [e];refine aI xc2 fun W S=>?_;refine dD (xjv l hb hd) ?_;exact aU xc2
 by_cases c2:s≥2
 ·have e:jS l s d=(l,0,false):=by rw [jS,if_pos (.inr (.inl c2))]
  rw [e];refine aI xc2 fun W S=>?_;refine dD (xjv l hb hd) ?_;exact aU xc2
 by_cases c3:l.length≥200
 ·have e:jS l s d=(l,0,false):=by rw [jS,if_pos (.inr (.inr (.inl c3)))]
  rw [e];refine aI xc2 fun W S=>?_;refine dD (xjv l hb hd) ?_;exact aU xc2
 by_cases c4:d.length>16
 ·have e:jS l s d=(l,0,false):=by rw [jS,if_pos (.inr (.inr (.inr c4)))]
  rw [e];refine aI xc2 fun W S=>?_;refine dD (xjv l hb hd) ?_;exact aU xc2
 ·have e:jS l s d=(l++[⟨l.length,s,d⟩],(d.length:Int),true):=by rw [jS,if_neg ω]
  rw [e];refine aI xc2 fun W S=>?_;refine dD (xjv l hb hd) ?_;exact aU xc2
end Go.Proofs.YthmjocibdepahaaGreat
namespace Go.Proofs.YthmjocibdepahaaGreat
open Go Go.RowKit Rdn Rdn.Dp
def xgw:=aC 170
def xri (j:Nat) (o:Output):Prop:=o.seq=j∧0≤o.socket∧o.socket<2∧o.data.length≤16
def xfc (l:List Output):Prop:=∀j,j<l.length→xri j l[j]!
noncomputable def xfb (l:List Output):Bool:=@decide (xfc l) (Classical.propDecidable _)
theorem ybj {l:List Output} (h:xfc l):xfb l=true:=by unfold xfb;exact @decide_eq_true _ (Classical.propDecidable _) h
theorem xmk {l:List Output} (h:¬xfc l):xfb l=false:=by unfold xfb;exact @decide_eq_false _ (Classical.propDecidable _) h
theorem yt6 (l:List Output):Fnc Tryz.prog 170 [.sl false 3 (l.map (wL false))] (fun x obs=>x=.bool (xfb l)∧obs=[]):=by
 refine Fnc.wf fun hw=>?_;simp only [V.wfs,V.wf,List.length_map] at hw;have hm:=hw.1.2;clear hw;refine aI xgw fun W S=>?_;refine bI [5,6] (fun p:{p:Nat // p≤l.length∧∀j,j<p→xri j l[j]!}=>[(7,.int .i64 p.1)]) (fun _=>[]) (fun p=>l.length-p.1) (⟨0,by simp⟩) 0 ?_;intro J hJ
 rintro⟨k,hk0,hk1⟩
 by_cases hlt:k<l.length
 ·by_cases c1:l[k]!.seq=k
  ·by_cases c2:l[k]!.socket<0
   ·have hF:=xmk (l:=l) fun h=>by have:=(h k hlt).2.1;omega
    rw [hF];refine aA ?_;exact aU xgw
   by_cases c3:l[k]!.socket≥2
   ·have hF:=xmk (l:=l) fun h=>by have:=(h k hlt).2.2.1;omega
    rw [hF];refine aA ?_;exact aU xgw
   by_cases c4:l[k]!.data.length>16
   ·have hF:=xmk (l:=l) fun h=>by have:=(h k hlt).2.2.2;omega
    rw [hF];refine aA ?_;exact aU xgw
   ·have uS:∀j,j<k+1→xri j l[j]!:=fun j hj=>by
     by_cases e:j=k
     ·subst e;exact⟨c1,ω,ω,ω⟩
     ·exact hk1 j ω
    refine aA ?_;exact nP (hJ _ (⟨k+1,hlt,uS⟩) ψ) hlt
  ·have hF:=xmk (l:=l) fun h=>c1 (h k hlt).1
   rw [hF];refine aA ?_;exact aU xgw
 ·obtain rfl:k=l.length:=ω
  have hT:=ybj (l:=l) fun j hj=>hk1 j hj;rw [hT];refine aA ?_;exact aU xgw
end Go.Proofs.YthmjocibdepahaaGreat
namespace Go.Proofs.YthmjocibdepahaaGreat
open Go Go.RowKit Rdn Rdn.Dp
end Go.Proofs.YthmjocibdepahaaGreat
namespace Go.Proofs.YthmjocibdepahaaGreat
open Go Go.RowKit Rdn Rdn.Dp
theorem xnk (k:IntKind) (l:List Int) (n:Nat):(l.map (V.int k)).take n=(l.take n).map (V.int k):=by rw [List.map_take]
theorem xkn (k:IntKind) (l:List Int) (n:Nat):(l.map (V.int k)).drop n=(l.drop n).map (V.int k):=by rw [List.map_drop]
attribute [local go_sem] xnk xkn List.take_length
end Go.Proofs.YthmjocibdepahaaGreat
namespace Go.Proofs.YthmjocibdepahaaGreat
open Go Go.RowKit Rdn Rdn.Dp
def xe3:=aC 227
def jY (wss:List (List Int)) (s n:Int):List (List Int)×List Canon×Bool:=
 if s<0∨s≥wss.length∨n<0 then(wss,[],false)
 else(wss.set s.toNat ((wss[s.toNat]!).drop (min n.toNat (wss[s.toNat]!).length)),mF ((wss[s.toNat]!).take (min n.toNat (wss[s.toNat]!).length)),true)
theorem yuo {α:Type} (t:Bool) (s:Nat) (f:α→V) (l:List (List α)) (i:Nat) (d:List α):(l.map (bD t s f)).set i (V.sl t s (d.map f))=(l.set i d).map (bD t s f):=by rw [List.map_set]
attribute [local go_sem] xnk xkn List.take_length yuo
theorem xki (wss:List (List Int)) (hl:wss.length≤1000) (hw:∀w∈wss,w.length≤100000):Fnc Tryz.prog 171 [.sl false 1 (wss.map (bD false 1 (V.int .u16)))] (fun x obs=>x=.own 0 0∧obs=[⟨.row 88,true,0,.arr 1 (wss.map (bD true 1 (V.int .u16)))⟩]):=by
 refine aI xgr fun W S=>?_;refine pW (i:=3) (e:=88) (s:=1) rfl δ ?_;refine bI [6,7] (fun p:{p:Nat // p≤wss.length}=>[(3,.own 0 p.1),(8,.int .i64 p.1)]) (fun p=>[⟨.row 88,true,p.1,.arr 1 ((wss.take p.1).map (bD true 1 (V.int .u16)))⟩]) (fun p=>wss.length-p.1) (⟨0,by simp⟩) 1 ?_;intro J hJ
 rintro⟨k,hk0⟩
 by_cases hlt:k<wss.length
 ·have h1:=hw _ (kE hlt)
  have htl:(wss.take k).length=k:=by rw [List.length_take];omega
  have hs:=jG hlt;refine aA ?_;exact jH (hJ _ (⟨k+1,hlt⟩) ψ) hs
 ·obtain rfl:k=wss.length:=ω
  refine aA ?_;refine ret xgr [0] ?_;(first|(simp only [go_sem];done)|(simp only [go_sem];((try dsimp only);(repeat' (refine And.intro ?_ ?_))<;>first|with_reducible rfl|(simp only [go_sem];done)|(simp only [go_sem];rfl)|(simp only [go_sem,List.take_length];done)|(simp only [List.take_length];(try simp only [go_sem]);first|done|rfl)|(simp only [go_sem];simp [List.take_length];done)|(simp [List.take_length];done)|rfl)))
theorem yta (wss:List (List Int)) (s n:Int) (hl:wss.length≤1000) (hw:∀w∈wss,w.length≤100000):Fnc Tryz.prog 227 [.sl false 1 (wss.map (bD false 1 (V.int .u16))),.int .i64 s,.int .i64 n] (fun x obs=>x=.tup [.sl false 1 ((jY wss s n).1.map (bD false 1 (V.int .u16))),.sl false 4 ((jY wss s n).2.1.map aS),.bool (jY wss s n).2.2]∧obs=[]):=by
 refine Fnc.low ?_;have fail:(s<0∨s≥wss.length∨n<0)→jY wss s n=(wss,[],false):=fun h=>by rw [jY,if_pos h]
 by_cases c1:s<0
 ·rw [fail (.inl c1)]
  refine aI xe3 fun W S=>?_;refine dD (xki wss hl hw) ?_;refine tZ 7 false 4 rfl ?_;exact zrl xe3
 by_cases c2:s≥wss.length
 ·rw [fail (.inr (.inl c2))]
  refine aI xe3 fun W S=>?_;refine dD (xki wss hl hw) ?_;refine tZ 7 false 4 rfl ?_;exact zrl xe3
 by_cases c3:n<0
 ·rw [fail (.inr (.inr c3))]
  refine aI xe3 fun W S=>?_;refine dD (xki wss hl hw) ?_;refine tZ 7 false 4 rfl ?_;exact zrl xe3
 obtain⟨S0,rfl⟩:=Int.eq_ofNat_of_zero_le (show 0≤s by omega);have hS0:S0<wss.length:=ω;obtain⟨w,hwe⟩:∃w,wss[S0]! =w:=⟨_,rfl⟩;have hwl:w.length≤100000:=by rw [←hwe];exact hw _ (kE hS0)
 obtain⟨M,hM⟩:∃M,M=min n.toNat w.length:=⟨_,rfl⟩;have hmin:(if(w.length:Int)<n then(w.length:Int) else n)=(M:Int):=by split<;>omega
 have e:jY wss S0 n=(wss.set S0 (w.drop M),mF (w.take M),true):=by
  rw [jY,if_neg ω,Int.toNat_natCast,hwe,←hM]
 rw [e];obtain⟨X,hXe⟩:∃X,List.take M w=X:=⟨_,rfl⟩;have hX:X.length=M:=by rw [←hXe,List.length_take];omega
 have hg:(wss.map (bD true 1 (V.int .u16))).getD S0 .junk=V.sl true 1 (w.map (V.int .u16)):=by rw [fF _ _ _ hS0,hwe]
 rw [hXe];refine aI xe3 fun W S=>?_;refine dD (xki wss hl hw) ?_
 repeat(first|(simp only [hwe,hmin,Int.toNat_natCast,hXe];try simp only [go_sem])|refine And.intro ω ?_|refine And.intro rfl ?_|refine gJ rfl rfl ?_|refine bY ?_|refine dI κ ?_|(simp (disch:=omega) only [fJ,Nat.min_eq_left,Nat.min_eq_right,if_pos,if_neg,fF,bW,dU,fH,fM,fK,aN,aJ,dB,dA,dP,dO,Int.toNat_natCast];try simp only [go_sem])|(refine dR rfl ?_ ?_;·(simp<;>omega))|(refine dZ rfl ?_ ?_;·(simp<;>omega))|((first|refine fQ ?_|refine gK rfl ?_|refine mZ rfl ?_|refine jJ aT rfl κ ?_|refine jK aT rfl κ ?_|refine jL aT rfl κ ?_);simp only [go_sem]))
 refine pW (i:=11) (e:=104) (s:=4) rfl δ ?_;refine gY [1,9,10,41,42] (fun p:{p:Nat // p≤X.length}=>[(11,.own 1 p.1),(43,.int .i64 p.1)]) (fun p=>[⟨.row 88,true,0,.arr 1 (wss.map (bD true 1 (V.int .u16)))⟩,⟨.row 104,true,p.1,.arr 4 ((mF (X.take p.1)).map aS)⟩]) (fun p=>X.length-p.1) (⟨0,by simp⟩) 2 τ ?_ (by first|rfl|(simp only [go_sem];done)|(simp only [go_sem];simp [xcz];done)) ξ φ φ (by first|rfl|(simp only [go_sem];done)|(simp only [xcz];(try simp only [go_sem]);first|done|rfl)) ?_
 ·(simp only [go_sem];(try simp [xcz]);done)
 intro J hJ
 rintro⟨k,hk0⟩
 by_cases hlt:k<X.length
 ·have hl2:=xf7 (X.take k)
  have hl3:(X.take k).length=k:=by rw [List.length_take];omega
  have hs:=xra hlt;refine aA ?_;exact vW (hJ _ (⟨k+1,hlt⟩) ψ) hs
 obtain rfl:k=X.length:=ω
 repeat(first|(simp only [Int.toNat_natCast,hg];try simp only [go_sem])|refine And.intro ω ?_|refine And.intro rfl ?_|refine gJ rfl rfl ?_|refine bY ?_|refine dI κ ?_|(simp (disch:=omega) only [fJ,Nat.min_eq_left,Nat.min_eq_right,if_pos,if_neg,fF,bW,dU,fH,fM,fK,aN,aJ,dB,dA,dP,dO,Int.toNat_natCast];try simp only [go_sem])|(refine dR rfl ?_ ?_;·(simp<;>omega))|(refine dZ rfl ?_ ?_;·(simp<;>omega))|((first|refine fQ ?_|refine gK rfl ?_|refine mZ rfl ?_|refine jJ aT rfl κ ?_|refine jK aT rfl κ ?_|refine jL aT rfl κ ?_);simp only [go_sem]))
 exact aU xe3
end Go.Proofs.YthmjocibdepahaaGreat
namespace Go.Proofs.YthmjocibdepahaaGreat
open Go Go.RowKit Rdn Rdn.Dp
def fl0 (l:List Int) (k:Nat):Files:=⟨[mF (bJ l k 5).1,mF (bJ l (bJ l k 5).2 3).1],xg8⟩
def kl0 (l:List Int) (k:Nat):Nat:=(bJ l (bJ l (bJ l (bJ l (bJ l (bJ l k 5).2 3).2 8).2 4).2 5).2 5).2
theorem yb0 (l:List Int):(mF l).all iH=true:=by
 rw [List.all_eq_true];intro x hx;obtain⟨v,_,rfl⟩:=List.mem_map.1 hx;exact aN (.inl ⟨.inl rfl,rfl,rfl⟩)
theorem yli (l:List Int) (k:Nat):FitF (fl0 l k):=by
 have h1:=yI (l:=l) (k:=k) (n:=5) ω;have h2:=yI (l:=l) (k:=(bJ l k 5).2) (n:=3) ω;refine⟨by show 2≤4;omega,rfl,fun x hx=>?_,fun x hx=>?_,fun o ho=>?_⟩
 ·simp [fl0] at hx
  rcases hx with rfl|rfl
  ·rw [xf7];omega
  ·rw [xf7];omega
 ·simp [fl0] at hx
  rcases hx with rfl|rfl
  ·exact yb0 _
  ·exact yb0 _
 ·simp [fl0,xg8] at ho;subst ho;exact .inl ⟨rfl,rfl,rfl⟩
theorem ymx {l:List Int} {k:Nat} (hk:k≤l.length):kl0 l k≤l.length:=by unfold kl0;exact zU (zU (zU (zU (zU (zU hk 5) 3) 8) 4) 5) 5
end Go.Proofs.YthmjocibdepahaaGreat
namespace Go.Proofs.YthmjocibdepahaaGreat
open Go Go.RowKit Rdn Rdn.Dp
end Go.Proofs.YthmjocibdepahaaGreat
namespace Go.Proofs.YthmjocibdepahaaGreat
open Go Go.RowKit Rdn Rdn.Dp
def xb3:=zcs 169
noncomputable def xfw (f:Files):Bool:=@decide (FitF f) (Classical.propDecidable _)
theorem yf3 {f:Files} (h:FitF f):xfw f=true:=by unfold xfw;exact @decide_eq_true _ (Classical.propDecidable _) h
theorem xdg {f:Files} (h:¬FitF f):xfw f=false:=by unfold xfw;exact @decide_eq_false _ (Classical.propDecidable _) h
theorem yh9 {f:Files} {k:Nat} (hk:k<f.data.length) (h:fD f.data[k]! 64=false):¬FitF f:=fun F=>by
 have h1:=F.len _ (kE hk);have h2:=F.cell _ (kE hk);unfold fD at h;rw [h2,aN ω] at h;exact absurd h δ
theorem ypz {f:Files} {i:Nat} (hi:i<f.opens.length) (h:¬yV f f.opens[i]!):¬FitF f:=fun F=>h (F.ok _ (kE hi))
theorem ytm (f:Files):Fnc Tryz.prog 169 [lC f] (fun x obs=>x=.bool (xfw f)∧obs=[]):=by
 refine Fnc.wf fun hw=>?_;have hm:∀k,k<f.data.length→f.data[k]!.length≤140737488355328:=fun k hk=>by
  have:=hw.1;simp only [V.wf,V.wfs,lW] at this;have:=this.1.1 _ (kE hk);simp only [bD,V.wf,List.length_map] at this;exact this.2
 simp only [V.wfs,V.wf,List.length_map] at hw;have m1:=hw.1.1.2;have m2:=hw.1.2.1.2;clear hw;by_cases hl:f.data.length≤4
 ·by_cases ho:f.opens.length=8
  ·skip
   refine aI xb3 fun W S=>?_;refine bI [1,18,19] (fun p:{p:Nat // p≤f.data.length∧∀j,j<p→fD f.data[j]! 64=true}=>[(20,.int .i64 p.1)]) (fun _=>[⟨.box false 91,true,0,lC f⟩]) (fun p=>f.data.length-p.1) (⟨0,by simp⟩) 1 ?_;intro J hJ
   rintro⟨k,hk0,hk1⟩
   by_cases hlt:k<f.data.length
   ·have h3:=hm k hlt
    have fc:=xea f.data[k]! 64;by_cases e:fD f.data[k]! 64=true
    ·rw [e] at fc
     have hS:∀j,j<k+1→fD f.data[j]! 64=true:=fun j hj=>by
      by_cases e':j=k
      ·subst e';exact e
      ·exact hk1 j ω
     refine aA ?_;refine aF (fc) ?_;exact jH (hJ _ (⟨k+1,hlt,hS⟩) ψ) hlt
    ·rw [Bool.not_eq_true] at e
     rw [e] at fc;rw [xdg (yh9 hlt e)];refine aA ?_;exact qV fc xb3
   ·obtain rfl:k=f.data.length:=ω
    refine aA ?_;refine bI [1,29,30] (fun p:{p:Nat // p≤8∧∀j,j<p→yV f f.opens[j]!}=>[(31,.int .i64 p.1)]) (fun _=>[⟨.box false 91,true,0,lC f⟩]) (fun p=>8-p.1) (⟨0,by simp⟩) 1 ?_;intro J hJ
    rintro⟨i,hi0,hi1⟩
    by_cases hlt2:i<8
    ·have hS (h:yV f f.opens[i]!):∀j,j<i+1→yV f f.opens[j]!:=fun j hj=>by
      by_cases e':j=i
      ·subst e';exact h
      ·exact hi1 j ω
     have hF:=fun h=>ypz (f:=f) (i:=i) ω h;generalize ho':f.opens[i]! =o at hS hF;by_cases c1:o.file=-1
     ·by_cases c2:o.offset=0
      ·cases c3:o.write
       ·have hS:=hS (.inl ⟨c1,c2,c3⟩)
        repeat(first|(simp only [ho',c3];try simp only [go_sem])|refine And.intro ω ?_|refine And.intro rfl ?_|refine gJ rfl rfl ?_|refine bY ?_|refine dI κ ?_|(simp (disch:=omega) only [fJ,Nat.min_eq_left,Nat.min_eq_right,if_pos,if_neg,fF,bW,dU,fH,fM,fK,aN,aJ,dB,dA,dP,dO,Int.toNat_natCast];try simp only [go_sem])|(refine dR rfl ?_ ?_;·(simp<;>omega))|(refine dZ rfl ?_ ?_;·(simp<;>omega))|((first|refine fQ ?_|refine gK rfl ?_|refine mZ rfl ?_|refine jJ aT rfl κ ?_|refine jK aT rfl κ ?_|refine jL aT rfl κ ?_);simp only [go_sem]))
        exact jH (hJ _ (⟨i+1,hlt2,hS⟩) ψ) hlt2
       ·rw [xdg (hF fun h=>by
         rcases h with h|h
         ·rw [c3] at h;exact absurd h.2.2 δ
         ·omega)]
        repeat(first|(simp only [ho',c3];try simp only [go_sem])|refine And.intro ω ?_|refine And.intro rfl ?_|refine gJ rfl rfl ?_|refine bY ?_|refine dI κ ?_|(simp (disch:=omega) only [fJ,Nat.min_eq_left,Nat.min_eq_right,if_pos,if_neg,fF,bW,dU,fH,fM,fK,aN,aJ,dB,dA,dP,dO,Int.toNat_natCast];try simp only [go_sem])|(refine dR rfl ?_ ?_;·(simp<;>omega))|(refine dZ rfl ?_ ?_;·(simp<;>omega))|((first|refine fQ ?_|refine gK rfl ?_|refine mZ rfl ?_|refine jJ aT rfl κ ?_|refine jK aT rfl κ ?_|refine jL aT rfl κ ?_);simp only [go_sem]))
        exact aU xb3
      ·rw [xdg (hF fun h=>by rcases h with h|h<;>omega)]
       refine aY ho' ?_;exact aU xb3
     by_cases c2:o.file< -1
     ·rw [xdg (hF fun h=>by rcases h with h|h<;>omega)]
      refine aY ho' ?_;exact aU xb3
     by_cases c3:f.data.length≤o.file
     ·rw [xdg (hF fun h=>by rcases h with h|h<;>omega)]
      refine aY ho' ?_;exact aU xb3
     by_cases c4:o.offset<0
     ·rw [xdg (hF fun h=>by rcases h with h|h<;>omega)]
      refine aY ho' ?_;exact aU xb3
     by_cases c5:o.offset≤f.data[o.file.toNat]!.length
     ·have hS:=hS (.inr ⟨ω,ω,ω,c5⟩)
      refine aY ho' ?_;exact jH (hJ _ (⟨i+1,hlt2,hS⟩) ψ) hlt2
     ·rw [xdg (hF fun h=>by rcases h with h|h<;>omega)]
      refine aY ho' ?_;exact aU xb3
    ·rw [yf3 ⟨hl,ho,fun x hx=>by
      obtain⟨j,hj,rfl⟩:=xg2 hx;have:=hk1 j hj;unfold fD at this;simp only [Bool.and_eq_true,decide_eq_true_eq] at this;omega,fun x hx=>by
      obtain⟨j,hj,rfl⟩:=xg2 hx;have:=hk1 j hj;unfold fD at this;simp only [Bool.and_eq_true] at this;exact this.1,fun o h=>by
      obtain⟨j,hj,rfl⟩:=xg2 h;exact hi1 j ω⟩]
     refine aA ?_;exact aU xb3
  ·rw [xdg fun F=>ho F.o]
   exact aZ xb3
 ·rw [xdg fun F=>hl F.d]
  exact aZ xb3
end Go.Proofs.YthmjocibdepahaaGreat
namespace Go.Proofs.YthmjocibdepahaaGreat
open Go Go.RowKit Rdn Rdn.Dp
instance (f:Files) (o:Opn):Decidable (yV f o):=by unfold yV;exact inferInstance
end Go.Proofs.YthmjocibdepahaaGreat
namespace Go.Proofs.YthmjocibdepahaaGreat
open Go Go.RowKit Rdn Rdn.Dp
attribute [local irreducible] xg8 mF
end Go.Proofs.YthmjocibdepahaaGreat
namespace Go.Proofs.YthmjocibdepahaaGreat
open Go Go.RowKit Rdn Rdn.Dp
def xc1:=aC 126
abbrev owV (w:List Int):V:=.sl false 1 (xjx w)
abbrev jO (o:Rdn.Outside):V:=.agg [owV o.clock,owV o.random,.sl false 1 (o.inputs.map (bD false 1 (V.int .u16))),lC o.files,.sl false 3 (o.outputs.map (wL false))]
structure FitO (o:Rdn.Outside):Prop where
 c:o.clock.length≤64
 r:o.random.length≤64
 i:o.inputs.length≤2
 w:∀x∈o.inputs,x.length≤64
 f:FitF o.files
 n:o.outputs.length≤200
 od:xfc o.outputs
 d:∀x∈o.outputs,fD x.data 16=true
noncomputable def xbk (o:Rdn.Outside):Bool:=@decide (FitO o) (Classical.propDecidable _)
theorem xah {o:Rdn.Outside} (h:FitO o):xbk o=true:=by unfold xbk;exact @decide_eq_true _ (Classical.propDecidable _) h
theorem xek {o:Rdn.Outside} (h:¬FitO o):xbk o=false:=by unfold xbk;exact @decide_eq_false _ (Classical.propDecidable _) h
theorem yx2 {o:Rdn.Outside} (h:xbk o=true):FitO o:=by
 unfold xbk at h;exact @of_decide_eq_true _ (Classical.propDecidable _) h
end Go.Proofs.YthmjocibdepahaaGreat
namespace Go.Proofs.YthmjocibdepahaaGreat
open Go Go.RowKit Rdn Rdn.Dp
theorem xbe (o:Rdn.Outside):Fnc Tryz.prog 126 [jO o] (fun x obs=>x=.bool (xbk o)∧obs=[]):=by
 refine Fnc.wf fun hw=>?_;have hm:∀k,k<o.inputs.length→o.inputs[k]!.length≤140737488355328:=fun k hk=>by
  have:=hw.1;simp only [V.wf,V.wfs,lW] at this;have:=this.2.2.1.1 _ (kE hk);simp only [bD,V.wf,List.length_map] at this;exact this.2
 simp only [V.wfs,V.wf,lW,List.length_map] at hw;have m1:=hw.1.1.2;have m2:=hw.1.2.1.2;have m3:=hw.1.2.2.1.2;have m4:=hw.1.2.2.2.2.1.2;clear hw;refine aI xc1 fun W S=>?_;refine bI [1,8,9] (fun p:{p:Nat // p≤o.inputs.length∧∀j,j<p→o.inputs[j]!.length≤64}=>[(10,.int .i64 p.1)]) (fun _=>[⟨.box false 94,true,0,jO o⟩]) (fun p=>o.inputs.length-p.1) (⟨0,by simp⟩) 1 ?_;intro J hJ
 rintro⟨k,hk0,hk1⟩
 by_cases hlt:k<o.inputs.length
 ·have h3:=hm k hlt
  by_cases c:o.inputs[k]!.length≤64
  ·have hS:∀j,j<k+1→o.inputs[j]!.length≤64:=fun j hj=>by
    by_cases e':j=k
    ·subst e';exact c
    ·exact hk1 j ω
   refine aA ?_;exact jH (hJ _ (⟨k+1,hlt,hS⟩) ψ) hlt
  ·rw [xek (fun F=>c (F.w _ (kE hlt)))]
   refine aA ?_;exact aU xc1
 obtain rfl:k=o.inputs.length:=ω;refine aA ?_;refine bI [1,19,20] (fun p:{p:Nat // p≤o.outputs.length∧∀j,j<p→fD o.outputs[j]!.data 16=true}=>[(21,.int .i64 p.1)]) (fun _=>[⟨.box false 94,true,0,jO o⟩]) (fun p=>o.outputs.length-p.1) (⟨0,by simp⟩) 1 ?_;intro J hJ
 rintro⟨i,hi0,hi1⟩
 by_cases hl2:i<o.outputs.length
 ·have fc:=xea o.outputs[i]!.data 16
  by_cases e:fD o.outputs[i]!.data 16=true
  ·rw [e] at fc
   have hS:∀j,j<i+1→fD o.outputs[j]!.data 16=true:=fun j hj=>by
    by_cases e':j=i
    ·subst e';exact e
    ·exact hi1 j ω
   refine aA ?_;refine aF (fc) ?_;exact jH (hJ _ (⟨i+1,hl2,hS⟩) ψ) hl2
  ·rw [Bool.not_eq_true] at e
   rw [e] at fc;rw [xek (fun F=>by rw [F.d _ (kE hl2)] at e;cases e)];refine aA ?_;exact qV fc xc1
 obtain rfl:i=o.outputs.length:=ω;have f2:=ytm o.files;have f3:=yt6 o.outputs;by_cases c1:o.clock.length≤64;rotate_left
 ·rw [xek (fun F=>c1 F.c)]
  refine aA ?_;exact aU xc1
 by_cases c2:o.random.length≤64;rotate_left
 ·rw [xek (fun F=>c2 F.r)]
  refine aA ?_;exact aU xc1
 by_cases c3:o.inputs.length≤2;rotate_left
 ·rw [xek (fun F=>c3 F.i)]
  refine aA ?_;exact aU xc1
 cases c6:xfw o.files with
 |false=>
  rw [c6] at f2;rw [xek (fun F=>by rw [yf3 F.f] at c6;cases c6)];refine aA ?_;exact qV f2 xc1
 |true=>
  rw [c6] at f2;by_cases c4:o.outputs.length≤200;rotate_left
  ·rw [xek (fun F=>c4 F.n)]
   refine aA ?_;exact qV f2 xc1
  cases c7:xfb o.outputs with
  |false=>
   rw [c7] at f3;rw [xek (fun F=>by rw [ybj F.od] at c7;cases c7)];refine aA ?_;exact zK2 f2 f3 xc1
  |true=>
   rw [c7] at f3;have hF:FitF o.files:=by
    unfold xfw at c6;exact @of_decide_eq_true _ (Classical.propDecidable _) c6
   have hO:xfc o.outputs:=by
    unfold xfb at c7;exact @of_decide_eq_true _ (Classical.propDecidable _) c7
   rw [xah ⟨c1,c2,c3,fun x hx=>by
    obtain⟨j,hj,rfl⟩:=xg2 hx;exact hk1 j hj,hF,c4,hO,fun x hx=>by
    obtain⟨j,hj,rfl⟩:=xg2 hx;exact hi1 j hj⟩]
   refine aA ?_;exact zK2 f2 f3 xc1
end Go.Proofs.YthmjocibdepahaaGreat
namespace Go.Proofs.YthmjocibdepahaaGreat
open Go Go.RowKit Rdn Rdn.Dp
def yo4:=aC 128
attribute [local go_sem] List.take_length
theorem ysc (f:Files) (F:LowF f):Fnc Tryz.prog 172 [lC f] (fun x obs=>x=lC f∧obs=[]):=by
 refine Fnc.low ?_;have h1:=F.d;have h2:=F.o;refine aI xgv fun W S=>?_;refine lZ 3 0 66 1 rfl rfl δ rfl ?_;refine bI [2,3,11,12] (fun p:{p:Nat // p≤f.data.length}=>[(13,.int .i64 p.1)]) (fun p=>[⟨.box false 91,true,0,lC f⟩,⟨.box false 91,true,0,.agg [.nilS,.nilS]⟩,⟨.row 295,true,0,.arr 3 (f.opens.map vO)⟩,⟨.box false 91,true,0,.agg [.own 4 p.1,.own 2 0]⟩,⟨.row 66,true,p.1,.arr 1 ((f.data.take p.1).map (bD true 4 aS))⟩]) (fun p=>f.data.length-p.1) (⟨0,by simp⟩) 5 ?_;intro J hJ
 rintro⟨k,hk0⟩
 by_cases hlt:k<f.data.length
 ·have hs:=jG hlt
  have hb:=F.len _ (kE hlt);have hl2:(f.data.take k).length=k:=by rw [List.length_take];omega
  refine aA ?_;exact rQ (hJ _ (⟨k+1,hlt⟩) ψ) hs
 ·obtain rfl:k=f.data.length:=ω
  refine aA ?_;exact zrl xgv
theorem yi3 (wss:List (List Int)) (hl:wss.length≤1000) (hw:∀w∈wss,w.length≤100000):Fnc Tryz.prog 171 [.sl false 1 (wss.map (bD false 1 (V.int .u16)))] (fun x obs=>x=.sl false 1 (wss.map (bD false 1 (V.int .u16)))∧obs=[]):=by
 refine Fnc.low ?_;refine aI xgr fun W S=>?_;refine pW (i:=3) (e:=88) (s:=1) rfl δ ?_;refine bI [6,7] (fun p:{p:Nat // p≤wss.length}=>[(3,.own 0 p.1),(8,.int .i64 p.1)]) (fun p=>[⟨.row 88,true,p.1,.arr 1 ((wss.take p.1).map (bD true 1 (V.int .u16)))⟩]) (fun p=>wss.length-p.1) (⟨0,by simp⟩) 1 ?_;intro J hJ
 rintro⟨k,hk0⟩
 by_cases hlt:k<wss.length
 ·have h1:=hw _ (kE hlt)
  have htl:(wss.take k).length=k:=by rw [List.length_take];omega
  have hs:=jG hlt;refine aA ?_;exact jH (hJ _ (⟨k+1,hlt⟩) ψ) hs
 ·obtain rfl:k=wss.length:=ω
  refine aA ?_;exact zrl xgr
theorem yvb (l:List Output) (hb:l.length≤1000000000) (hd:xnf 1000000000 l):Fnc Tryz.prog 173 [.sl false 3 (l.map (wL false))] (fun x obs=>x=.sl false 3 (l.map (wL false))∧obs=[]):=by
 refine Fnc.low ?_;refine aI xm2 fun W S=>?_;refine pW (i:=3) (e:=271) (s:=3) rfl δ ?_;refine bI [6,7] (fun p:{p:Nat // p≤l.length}=>[(3,.own 0 p.1),(8,.int .i64 p.1)]) (fun p=>[⟨.row 271,true,p.1,.arr 3 ((l.take p.1).map (wL true))⟩]) (fun p=>l.length-p.1) (⟨0,by simp⟩) 1 ?_;intro J hJ
 rintro⟨k,hk0⟩
 by_cases hlt:k<l.length
 ·have hdk:l[k]!.data.length≤1000000000:=hd _ (kE hlt)
  have htl:(l.take k).length=k:=by simp;omega
  refine aA ?_;exact jH (hJ _ (⟨k+1,hlt⟩) ψ) (jG hlt)
 ·obtain rfl:k=l.length:=ω
  refine aA ?_;exact zrl xm2
theorem FitO.short {o:Rdn.Outside} (F:FitO o):xnf 1000000000 o.outputs:=fun x hx=>by
 have:=F.d x hx;unfold fD at this;simp only [Bool.and_eq_true,decide_eq_true_eq] at this;omega
theorem xcd (o:Rdn.Outside) (F:FitO o):Fnc Tryz.prog 128 [jO o] (fun x obs=>x=jO o∧obs=[]):=by
 refine Fnc.low ?_;have h1:=F.c;have h2:=F.r;have h3:=F.i;have h4:=F.n;have f1:=yi3 o.inputs ω (fun w hw=>by have:=F.w w hw;omega);have f2:=ysc o.files F.f.low;have f3:=yvb o.outputs ω F.short;exact zG3 yo4 f1 f2 f3
end Go.Proofs.YthmjocibdepahaaGreat
namespace Go.Proofs.YthmjocibdepahaaGreat
open Go Go.RowKit Rdn Rdn.Dp
def noO:Rdn.Outside:=⟨[],[],[],⟨[],[]⟩,[]⟩
theorem yph:jO noO=.agg [.sl false 1 [],.sl false 1 [],.sl false 1 [],lC ⟨[],[]⟩,.sl false 3 []]:=rfl
attribute [local irreducible] xg8 mF xbk
end Go.Proofs.YthmjocibdepahaaGreat
namespace Go.Proofs.YthmjocibdepahaaGreat
open Go Go.RowKit Rdn Rdn.Dp
def xzt:=aC 196
def xf5:=aC 197
def yo2:=aC 180
def xqp:=aC 219
def kb (c:Int):ByteArray:=if c=0∨c=8∨c=9∨c=11∨c=12 then⟨#[78]⟩ else if c=1∨c=2 then⟨#[72,80,78]⟩ else if c=3 then⟨#[78,78]⟩ else if c=4 then⟨#[72]⟩ else if c=5 then⟨#[72,78]⟩ else if c=10 then⟨#[78,88]⟩ else if c=13∨c=14 then⟨#[78,80,78]⟩ else ByteArray.empty
def kl (c:Int):List Int:=if c=0∨c=8∨c=9∨c=11∨c=12 then [78] else if c=1∨c=2 then [72,80,78] else if c=3 then [78,78] else if c=4 then [72] else if c=5 then [72,78] else if c=10 then [78,88] else if c=13∨c=14 then [78,80,78] else []
def iO (c:Int):Int:=if c=1∨c=13 then 1 else if c=2∨c=14 then 2 else 0
def sO (c:Int):Bool:=decide (1≤c∧c≤7∨c=13∨c=14)
theorem xk9 {c:Int} (h0:0≤c) (h1:c≤15):c=0∨c=1∨c=2∨c=3∨c=4∨c=5∨c=6∨c=7∨c=8∨c=9∨c=10∨c=11∨c=12∨c=13∨c=14∨c=15:=ω
theorem xs4 (c:Int):Fnc Tryz.prog 196 [.int .i64 c] (fun x obs=>x=.str (kb c)∧obs=[]):=by
 by_cases h:0≤c∧c≤15
 ·rcases xk9 h.1 h.2 with rfl|rfl|rfl|rfl|rfl|rfl|rfl|rfl|rfl|rfl|rfl|rfl|rfl|rfl|rfl|rfl<;>clear h
  all_goals
   exact aZ xzt
 ·rw [show kb c=ByteArray.empty by
   unfold kb;rw [if_neg ω,if_neg ω,if_neg ω,if_neg ω,if_neg ω,if_neg ω,if_neg ω]]
  exact aZ xzt
theorem xO (c:Int) (h0:0≤c) (h1:c≤15):Fnc Tryz.prog 180 [.int .i64 c] (fun x obs=>x=.int .i64 (iO c)∧obs=[]):=by
 rcases xk9 h0 h1 with rfl|rfl|rfl|rfl|rfl|rfl|rfl|rfl|rfl|rfl|rfl|rfl|rfl|rfl|rfl|rfl<;>clear h0 h1
 all_goals
  exact aZ yo2
theorem xc9 (c:Int):Fnc Tryz.prog 219 [.int .i64 c] (fun x obs=>x=.bool (sO c)∧obs=[]):=by
 by_cases h:0≤c∧c≤15
 ·rcases xk9 h.1 h.2 with rfl|rfl|rfl|rfl|rfl|rfl|rfl|rfl|rfl|rfl|rfl|rfl|rfl|rfl|rfl|rfl<;>clear h
  all_goals
   exact aZ xqp
 ·rw [show sO c=false from aJ ω]
  by_cases h1:c<0
  ·skip
   exact aZ xqp
  ·skip
   exact aZ xqp
end Go.Proofs.YthmjocibdepahaaGreat
namespace Go.Proofs.YthmjocibdepahaaGreat
open Go Go.RowKit Rdn Rdn.Dp
def wJ:=aC 204
abbrev eP (q:Request):V:=.agg [.int .i64 q.thread,.int .i64 q.stop,.int .i64 q.trap,.int .i64 q.count,.int .i64 q.pc,.int .i64 q.call,.sl false 4 (q.args.map aS),.sl false 4 (q.data.map aS)]
structure FitQ (q:Request):Prop where
 thread:0≤q.thread∧q.thread≤3
 stop:0≤q.stop∧q.stop≤3
 trap:0≤q.trap∧q.trap≤6
 count:0≤q.count∧q.count≤1099511627776
 pc:0≤q.pc∧q.pc≤255
 call:0≤q.call∧q.call≤15
 args:fD q.args 3=true
 data:fD q.data 16=true
noncomputable def xai (q:Request):Bool:=@decide (FitQ q) (Classical.propDecidable _)
theorem xaj {q:Request} (h:FitQ q):xai q=true:=by unfold xai;exact @decide_eq_true _ (Classical.propDecidable _) h
theorem xX {q:Request} (h:¬FitQ q):xai q=false:=by unfold xai;exact @decide_eq_false _ (Classical.propDecidable _) h
theorem yf4 {q:Request} (h:xai q=true):FitQ q:=by
 unfold xai at h;exact @of_decide_eq_true _ (Classical.propDecidable _) h
theorem xbf (q:Request):Fnc Tryz.prog 204 [eP q] (fun x obs=>x=.bool (xai q)∧obs=[]):=by
 have fa:=xea q.args 3;have fd:=xea q.data 16;by_cases thread0:0≤q.thread;rotate_left
 ·rw [xX (fun F=>thread0 F.thread.1)]
  exact aZ wJ
 by_cases thread1:q.thread≤3;rotate_left
 ·rw [xX (fun F=>thread1 F.thread.2)]
  exact aZ wJ
 by_cases stop0:0≤q.stop;rotate_left
 ·rw [xX (fun F=>stop0 F.stop.1)]
  exact aZ wJ
 by_cases stop1:q.stop≤3;rotate_left
 ·rw [xX (fun F=>stop1 F.stop.2)]
  exact aZ wJ
 by_cases trap0:0≤q.trap;rotate_left
 ·rw [xX (fun F=>trap0 F.trap.1)]
  exact aZ wJ
 by_cases trap1:q.trap≤6;rotate_left
 ·rw [xX (fun F=>trap1 F.trap.2)]
  exact aZ wJ
 by_cases count0:0≤q.count;rotate_left
 ·rw [xX (fun F=>count0 F.count.1)]
  exact aZ wJ
 by_cases count1:q.count≤1099511627776;rotate_left
 ·rw [xX (fun F=>count1 F.count.2)]
  exact aZ wJ
 by_cases pc0:0≤q.pc;rotate_left
 ·rw [xX (fun F=>pc0 F.pc.1)]
  exact aZ wJ
 by_cases pc1:q.pc≤255;rotate_left
 ·rw [xX (fun F=>pc1 F.pc.2)]
  exact aZ wJ
 by_cases call0:0≤q.call;rotate_left
 ·rw [xX (fun F=>call0 F.call.1)]
  exact aZ wJ
 by_cases call1:q.call≤15;rotate_left
 ·rw [xX (fun F=>call1 F.call.2)]
  exact aZ wJ
 cases ea:fD q.args 3 with
 |false=>
  rw [ea] at fa;rw [xX (fun F=>by rw [F.args] at ea;cases ea)];exact eY wJ fa
 |true=>
  rw [ea] at fa;cases ed:fD q.data 16 with
  |false=>
   rw [ed] at fd;rw [xX (fun F=>by rw [F.data] at ed;cases ed)];exact zG2 wJ fa fd
  |true=>
   rw [ed] at fd;rw [xaj ⟨⟨thread0,thread1⟩,⟨stop0,stop1⟩,⟨trap0,trap1⟩,⟨count0,count1⟩,⟨pc0,pc1⟩,⟨call0,call1⟩,ea,ed⟩];exact zG2 wJ fa fd
end Go.Proofs.YthmjocibdepahaaGreat
namespace Go.Proofs.YthmjocibdepahaaGreat
open Go Go.RowKit Rdn Rdn.Dp
def xj4:=aC 220
def pI (k t:Int):Bool:=if k=78 then decide (t=0) else if k=72 then decide (t=2) else if k=80 then decide (t=1) else true
def lK (ks ts:List Int):Nat→Bool
 |0=>true
 |n+1=>lK ks ts n && pI ks[n]! ts[n]!
def xE (ks ts:List Int):Bool:=decide (ks.length=ts.length) && lK ks ts ts.length
def uG (q:Request):List Int:=q.args.map Canon.tag
noncomputable def mY (q:Request):Bool:=xai q && decide (q.stop=1) && xE (kl q.call) (uG q)
theorem yms {k t:Int} (h:k=78) (h2:t=0):pI k t=true:=by subst h;subst h2;rfl
theorem ymr {k t:Int} (h:k=78) (h2:¬t=0):pI k t=false:=by subst h;unfold pI;rw [if_pos rfl,aJ h2]
theorem ymq {k t:Int} (h:k=72) (h2:t=2):pI k t=true:=by subst h;subst h2;rfl
theorem ymp {k t:Int} (h:k=72) (h2:¬t=2):pI k t=false:=by subst h;unfold pI;rw [if_neg δ,if_pos rfl,aJ h2]
theorem ymu {k t:Int} (h:k=80) (h2:t=1):pI k t=true:=by subst h;subst h2;rfl
theorem ymt {k t:Int} (h:k=80) (h2:¬t=1):pI k t=false:=by subst h;unfold pI;rw [if_neg δ,if_neg δ,if_pos rfl,aJ h2]
theorem ymv {k t:Int} (h1:¬k=78) (h2:¬k=72) (h3:¬k=80):pI k t=true:=by unfold pI;rw [if_neg h1,if_neg h2,if_neg h3]
theorem xwj {ks ts:List Int} {n:Nat} (h:lK ks ts n=true) (h2:pI ks[n]! ts[n]! =true):lK ks ts (n+1)=true:=by show(lK ks ts n && pI ks[n]! ts[n]!)=true;rw [h,h2];rfl
theorem xwi {ks ts:List Int} {n:Nat} (h2:pI ks[n]! ts[n]! =false):lK ks ts (n+1)=false:=by show(lK ks ts n && pI ks[n]! ts[n]!)=false;rw [h2,Bool.and_false]
theorem ylg {ks ts:List Int} {n:Nat} (h:lK ks ts n=false):lK ks ts (n+1)=false:=by show(lK ks ts n && pI ks[n]! ts[n]!)=false;rw [h,Bool.false_and]
theorem xwl {ks ts:List Int} {n m:Nat} (h:lK ks ts n=false) (hm:n≤m):lK ks ts m=false:=by
 induction m with
 |zero=>
  obtain rfl:n=0:=ω;exact h
 |succ m ih=>
  by_cases e:n=m+1
  ·subst e;exact h
  ·exact ylg (ih ω)
theorem xpy (c:Int):(kb c).size=(kl c).length∧∀k,k<(kl c).length→((kb c)[k]?.getD 0).toNat=(kl c)[k]!:=by
 by_cases h:0≤c∧c≤15
 ·rcases xk9 h.1 h.2 with rfl|rfl|rfl|rfl|rfl|rfl|rfl|rfl|rfl|rfl|rfl|rfl|rfl|rfl|rfl|rfl<;>exact⟨δ,δ⟩
 ·have a:kb c=ByteArray.empty:=by
   unfold kb;rw [if_neg ω,if_neg ω,if_neg ω,if_neg ω,if_neg ω,if_neg ω,if_neg ω]
  have b:kl c=[]:=by
   unfold kl;rw [if_neg ω,if_neg ω,if_neg ω,if_neg ω,if_neg ω,if_neg ω,if_neg ω]
  rw [a,b];exact⟨rfl,fun k hk=>absurd hk (Nat.not_lt_zero k)⟩
theorem xdx (c:Int):(kl c).length≤3:=by
 unfold kl
 repeat' split
 all_goals decide
attribute [local irreducible] kb kl pI lK
end Go.Proofs.YthmjocibdepahaaGreat
namespace Go.Proofs.YthmjocibdepahaaGreat
open Go Go.RowKit Rdn Rdn.Dp
theorem yct (k t:Int):Fnc Tryz.prog 197 [.int .u8 k,.int .u8 t] (fun x obs=>x=.bool (pI k t)∧obs=[]):=by
 by_cases c1:k=78
 ·by_cases d:t=0
  ·rw [yms c1 d]
   exact aZ xf5
  ·rw [ymr c1 d]
   exact aZ xf5
 by_cases c2:k=72
 ·by_cases d:t=2
  ·rw [ymq c2 d]
   exact aZ xf5
  ·rw [ymp c2 d]
   exact aZ xf5
 by_cases c3:k=80
 ·by_cases d:t=1
  ·rw [ymu c3 d]
   exact aZ xf5
  ·rw [ymt c3 d]
   exact aZ xf5
 ·rw [ymv c1 c2 c3]
  exact aZ xf5
theorem ywb {q:Request} {k:Nat} (h:k<q.args.length):(uG q)[k]! =q.args[k]!.tag:=by
 unfold uG;rw [getElem!_pos _ k (by rw [List.length_map];exact h),getElem!_pos _ k h,List.getElem_map]
theorem yej (q:Request):(uG q).length=q.args.length:=List.length_map ..
attribute [local irreducible] kb kl pI lK xE xai uG
theorem xcc (q:Request) (ha:q.args.length≤1000):Fnc Tryz.prog 220 [eP q] (fun x obs=>x=.bool (xE (kl q.call) (uG q))∧obs=[]):=by
 have f:=xs4 q.call;obtain⟨hs,hk⟩:=xpy q.call;have h3:=xdx q.call;have ht:=yej q;have hi:jE .i64 ((kl q.call).length:Int):=xl7 ω ω;by_cases e:(kl q.call).length=q.args.length
 ·have hr:xE (kl q.call) (uG q)=lK (kl q.call) (uG q) q.args.length:=by unfold xE;rw [aN ω,Bool.true_and,ht]
  rw [hr];have hz:lK (kl q.call) (uG q) 0=true:=by unfold lK;rfl
  refine aI xj4 fun W S=>?_;refine bZ (f) ?_;refine aY (And.intro hi (hs)) ?_;refine bI [3,16,17] (fun p:{p:Nat // p≤q.args.length∧lK (kl q.call) (uG q) p=true}=>[(18,.int .i64 p.1)]) (fun _=>[⟨.box false 241,true,0,eP q⟩]) (fun p=>q.args.length-p.1) (⟨0,by simp,hz⟩) 1 ?_;intro J hJ
  rintro⟨k,hk0,hk1⟩
  by_cases hlt:k<q.args.length
  ·have hkk:=hk k ω
   have fk:=yct (kl q.call)[k]! q.args[k]!.tag;have hta:=ywb hlt;by_cases g:pI (kl q.call)[k]! q.args[k]!.tag=true
   ·have hS:lK (kl q.call) (uG q) (k+1)=true:=xwj hk1 (by rw [hta];exact g)
    rw [g] at fk;refine aY (And.intro hkk (hs)) ?_;refine aF (fk) ?_;exact jH (hJ _ (⟨k+1,hlt,hS⟩) ψ) hlt
   ·rw [Bool.not_eq_true] at g
    rw [g] at fk;rw [xwl (xwi (n:=k) (by rw [hta];exact g)) hlt];refine aY (And.intro hkk (hs)) ?_;exact qV fk xj4
  ·obtain rfl:k=q.args.length:=ω
   refine aA ?_;refine ret xj4 [] ?_;(first|(simp only [go_sem];done)|(simp only [go_sem];((try dsimp only);(repeat' (refine And.intro ?_ ?_))<;>first|with_reducible rfl|(simp only [go_sem];done)|(simp only [go_sem];rfl)|(simp only [go_sem,hk1];done)|(simp only [hk1];(try simp only [go_sem]);first|done|rfl)|(simp only [go_sem];simp [hk1];done)|(simp [hk1];done)|rfl)))
 ·have hr:xE (kl q.call) (uG q)=false:=by unfold xE;rw [aJ ω,Bool.false_and]
  rw [hr];refine aI xj4 fun W S=>?_;refine bZ (f) ?_;refine aY (And.intro hi (hs)) ?_;exact aU xj4
end Go.Proofs.YthmjocibdepahaaGreat
namespace Go.Proofs.YthmjocibdepahaaGreat
open Go Go.RowKit Rdn Rdn.Dp
abbrev eX (r:Rdn.Result):V:=.agg [aS r.value,.sl false 4 (r.data.map aS),.int .i64 r.spawn,.bool r.wait]
def sF (c:Canon) (d:List Canon):Rdn.Result:=⟨c,d,-1,false⟩
def nH (v:Int):Canon:=⟨0,IntKind.u16.wrap v,0,0⟩
def zY:Rdn.Result:=sF ⟨0,65535,0,0⟩ []
def noR:Rdn.Result:=⟨⟨0,0,0,0⟩,[],0,false⟩
def pR (l:List Int):List Int×Canon×Bool:=if l.length=0 then(l,⟨0,0,0,0⟩,false) else(l.drop 1,⟨0,l[0]!,0,0⟩,true)
theorem ydd {l:List Int} (h:l.length=0):pR l=(l,⟨0,0,0,0⟩,false):=if_pos h
theorem ydc {l:List Int} (h:¬l.length=0):pR l=(l.drop 1,⟨0,l[0]!,0,0⟩,true):=if_neg h
attribute [local go_sem] xnk xkn List.take_length
end Go.Proofs.YthmjocibdepahaaGreat
namespace Go.Proofs.YthmjocibdepahaaGreat
open Go Go.RowKit Rdn Rdn.Dp
theorem yb1:nH 0=⟨0,0,0,0⟩:=rfl
attribute [local irreducible] pR
end Go.Proofs.YthmjocibdepahaaGreat
namespace Go.Proofs.YthmjocibdepahaaGreat
open Go Go.RowKit Rdn Rdn.Dp
attribute [local irreducible] pR xg8
end Go.Proofs.YthmjocibdepahaaGreat
namespace Go.Proofs.YthmjocibdepahaaGreat
open Go Go.RowKit Rdn Rdn.Dp
def xy1:=aC 179
def xz7:=aC 140
def yoa:=aC 178
def yo9:=aC 199
def xzs:=aC 132
def ya7:=aC 237
def ya9:=aC 229
def xgp:=zcs 177
def xlj:=aC 135
theorem xts (c:Int) (h0:0≤c) (h1:c≤15):Fnc Tryz.prog 179 [.int .i64 c] (fun x obs=>x=.int .i64 (kl c).length∧obs=[]):=by
 have f:=xs4 c;obtain⟨hs,hk⟩:=xpy c;have h3:=xdx c;have hi:jE .i64 ((kl c).length:Int):=xl7 ω ω;refine aI xy1 fun W S=>?_;refine bZ (f) ?_;refine aY (And.intro hi (hs)) ?_;exact aU xy1
theorem xxv (m:PMem) (h:nJ m) (addr:Int) (h0:0≤addr) (h1:addr<512):Fnc Tryz.prog 140 [iU false m,.int .i64 addr] (fun x obs=>x=bC (tJ m addr)∧obs=[]):=by
 obtain⟨k1,k2,k3,k4⟩:=h;have hl:=k4 (addr / 4 % 4).toNat ω;unfold tJ;dsimp only;by_cases c:m.lines[(addr / 4 % 4).toNat]!.tag=addr / 4
 ·rw [if_pos c]
  unfold lF at hl;rw [if_neg ω] at hl;obtain⟨-,-,-,l4,-⟩:=hl;exact aZ xz7
 ·rw [if_neg c]
  exact aZ xz7
theorem ywe (x:PThr) (h:x.regs.length=8):Fnc Tryz.prog 199 [dW false x] (fun y obs=>y=dW true x∧obs=[]):=by
 exact aZ yo9
theorem yel (x:PThr) (h:x.regs.length=8) (trap code:Int):Fnc Tryz.prog 178 [dW false x,.int .i64 trap,.int .u16 code] (fun y obs=>y=dW true (xbr x trap code)∧obs=[]):=by
 have f:=ywe x h;exact eY yoa f
def qF (l:List PThr) (k:Nat):List Int:=((List.range k).filter (fun i=>decide (l[i]!.state=1))).map Int.ofNat
theorem yso {l:List PThr} {k:Nat} (h:l[k]!.state=1):qF l (k+1)=qF l k++[(k:Int)]:=by
 unfold qF;rw [List.range_succ,List.filter_append,List.map_append]
 congr 1
 simp only [List.filter,aN h,List.map_cons,List.map_nil];rfl
theorem ysn {l:List PThr} {k:Nat} (h:¬l[k]!.state=1):qF l (k+1)=qF l k:=by
 unfold qF;rw [List.range_succ,List.filter_append,List.map_append];simp only [List.filter,aJ h,List.map_nil,List.append_nil]
theorem ych (l:List PThr) (k:Nat):(qF l k).length≤k:=by
 unfold qF;rw [List.length_map];exact Nat.le_trans (List.length_filter_le _ _) ξ
theorem ysp {l:List PThr} {k:Nat} {x:Int} (h:x∈qF l k):0≤x∧x<k∧l[x.toNat]!.state=1:=by
 unfold qF at h;obtain⟨i,h1,rfl⟩:=List.mem_map.1 h;have h2:=List.mem_filter.1 h1;have h3:=List.mem_range.1 h2.1;have h4:=of_decide_eq_true h2.2;exact⟨Int.natCast_nonneg i,by show(i:Int)<k;omega,h4⟩
theorem ysq (l:List PThr) (h:l.length=4):Fnc Tryz.prog 132 [.sl false 8 (l.map (dW false))] (fun x obs=>x=.sl true 1 (bH (qF l 4))∧obs=[]):=by
 have hz:qF l 0=[]:=rfl;refine aI xzs fun W S=>?_;refine pW (i:=3) (e:=3) (s:=1) rfl δ ?_;refine gY [6,7] (fun p:{p:Nat // p≤l.length}=>[(3,.own 0 (qF l p.1).length),(8,.int .i64 p.1)]) (fun p=>[⟨.row 3,true,(qF l p.1).length,.arr 1 (bH (qF l p.1))⟩]) (fun p=>l.length-p.1) (⟨0,by simp⟩) 1 τ ?_ (by first|rfl|(simp only [go_sem];done)|(simp only [go_sem];simp [hz];done)) ξ φ φ (by first|rfl|(simp only [go_sem];done)|(simp only [hz];(try simp only [go_sem]);first|done|rfl)) ?_
 ·(simp only [go_sem];(try simp [hz]);done)
 intro J hJ
 rintro⟨k,hk0⟩
 by_cases hlt:k<l.length
 ·have hl:=ych l k
  by_cases c:l[k]!.state=1
  ·have hs:=yso c
   have hsl:(qF l (k+1)).length=(qF l k).length+1:=by rw [hs,List.length_append];rfl
   have hsm:bH (qF l (k+1))=bH (qF l k)++[.int .i64 k]:=by rw [hs];simp [bH]
   refine aA ?_;exact jH (hJ _ (⟨k+1,hlt⟩) ψ) (And.intro hsl (hsm))
  ·have hs:=ysn c
   refine aA ?_;exact jH (hJ _ (⟨k+1,hlt⟩) ψ) hs
 obtain rfl:k=l.length:=ω;rw [show qF l 4=qF l l.length by rw [h]];refine aA ?_;exact aU xzs
def oZ (p:PProg) (x:PThr):Int:=p.code[(x.pc-1).toNat]!.imm
def xbj (x:PThr):List Int:=x.regs.map Cell.tag
def uN (p:PProg) (l:PLay) (x:PThr):Int:=
 if lK (kl (oZ p x)) (xbj x) (kl (oZ p x)).length=false then 6
 else if 0<iO (oZ p x)∧((yA l p.sizes x.regs[1]! x.regs[2]!.val).2≠0∨16<x.regs[2]!.val) then 6
 else if(oZ p x=10∨oZ p x=12)∧(p.code.length:Int)≤x.regs[0]!.val then 6
 else 0
theorem ygh (c:Int):0≤iO c∧iO c≤2:=by
 unfold iO
 repeat' split
 all_goals omega
theorem yhf (p:PProg) (m:PMach) {C:Int} (h:okMach p C m) (t:Nat) (ht:t<4) (h1:1≤m.thr[t]!.pc) (h2:m.thr[t]!.pc≤p.code.length) (h3:0≤oZ p m.thr[t]!∧oZ p m.thr[t]!≤15):Fnc Tryz.prog 177 [dM false p,eG false m,.int .i64 t] (fun x obs=>x=.int .i64 (uN p m.lay m.thr[t]!)∧obs=[]):=by
 have hn:=h.n;obtain⟨hr,-,-,rl,-⟩:=mP h ht;have hcl:=h.prog.c2;have fw:=yxr m.lay p.sizes m.thr[t]!.regs[1]! m.thr[t]!.regs[2]!.val h.lay (mG hr ω);have v2:=(mG hr (k:=2) ω).2.2;have v0:=(mG hr (k:=0) ω).2.2;have tg:∀k,k<m.thr[t]!.regs.length→(xbj m.thr[t]!)[k]! =m.thr[t]!.regs[k]!.tag:=fun k hk=>by
  unfold xbj;rw [getElem!_pos _ k (by rw [List.length_map];exact hk),getElem!_pos _ k hk,List.getElem_map]
 obtain⟨R,hR⟩:∃R,uN p m.lay m.thr[t]! =R:=⟨_,rfl⟩;rw [hR];unfold uN at hR;obtain⟨c,hcs⟩:∃c,p.code[(m.thr[t]!.pc-1).toNat]!.imm=c:=⟨_,rfl⟩;have hc2:oZ p m.thr[t]! =c:=hcs;rw [hc2] at hR h3;clear hc2;have f:=xs4 c;have fb:=xO c h3.1 h3.2;obtain⟨hs,hk⟩:=xpy c;have hk3:=xdx c;have hbf:=ygh c;have hi:jE .i64 ((kl c).length:Int):=xl7 ω ω;have hz:lK (kl c) (xbj m.thr[t]!) 0=true:=by unfold lK;rfl
 refine aI xgp fun W S=>?_;refine aY hcs ?_;refine bZ (f) ?_;refine aY (And.intro hi (hs)) ?_;refine bI [3,4,7,8,9,29] (fun q:{q:Nat // q≤(kl c).length∧lK (kl c) (xbj m.thr[t]!) q=true}=>[(30,.int .i64 q.1)]) (fun _=>[⟨.box false 30,true,0,dM false p⟩,⟨.box false 40,true,0,eG false m⟩,⟨.box false 113,true,0,dW false m.thr[t]!⟩]) (fun q=>(kl c).length-q.1) (⟨0,by simp,hz⟩) 3 ?_;intro J hJ
 rintro⟨k,hk0,hk1⟩
 by_cases hlt:k<(kl c).length
 ·have hkk:=hk k ω
  have fk:=yct (kl c)[k]! m.thr[t]!.regs[k]!.tag;have hta:=tg k ω;by_cases g:pI (kl c)[k]! m.thr[t]!.regs[k]!.tag=true
  ·have hS:lK (kl c) (xbj m.thr[t]!) (k+1)=true:=xwj hk1 (by rw [hta];exact g)
   rw [g] at fk;refine aY (And.intro hkk (hs)) ?_;refine aF (fk) ?_;exact zn3 (hJ _ (⟨k+1,hlt,hS⟩) ψ) hlt
  ·rw [Bool.not_eq_true] at g
   rw [g] at fk;rw [if_pos (xwl (xwi (n:=k) (by rw [hta];exact g)) hlt)] at hR;subst hR;refine aY (And.intro hkk (hs)) ?_;exact qV fk xgp
 obtain rfl:k=(kl c).length:=ω;rw [if_neg (by rw [hk1];simp)] at hR;have last:(¬(0<iO c∧((yA m.lay p.sizes m.thr[t]!.regs[1]! m.thr[t]!.regs[2]!.val).2≠0∨16<m.thr[t]!.regs[2]!.val)))→((c=10∨c=12)∧(p.code.length:Int)≤m.thr[t]!.regs[0]!.val∧R=6)∨(c≠10∧c≠12∧R=0)∨((c=10∨c=12)∧m.thr[t]!.regs[0]!.val<p.code.length∧R=0):=by
  intro hb;rw [if_neg hb] at hR;by_cases d:c=10∨c=12
  ·by_cases e:(p.code.length:Int)≤m.thr[t]!.regs[0]!.val
   ·rw [if_pos ⟨d,e⟩] at hR
    exact .inl ⟨d,e,hR.symm⟩
   ·rw [if_neg (fun q=>e q.2)] at hR
    exact .inr (.inr ⟨d,ω,hR.symm⟩)
  ·rw [if_neg (fun q=>d q.1)] at hR
   exact .inr (.inl ⟨ω,ω,hR.symm⟩)
 by_cases hb:0<iO c
 ·by_cases w:(yA m.lay p.sizes m.thr[t]!.regs[1]! m.thr[t]!.regs[2]!.val).2=0
  rotate_left
  ·rw [if_pos ⟨hb,.inl w⟩] at hR
   subst hR;refine aA ?_;exact zK2 fb fw xgp
  by_cases w2:16<m.thr[t]!.regs[2]!.val
  ·rw [if_pos ⟨hb,.inr w2⟩] at hR
   subst hR;refine aA ?_;exact zK2 fb fw xgp
  have l3:=last (fun q=>q.2.elim (fun r=>r w) w2);rw [w] at fw;have hno:¬(c=10∨c=12):=by
   rintro(rfl|rfl)<;>exact absurd hb δ
  rcases l3 with ⟨e0,-⟩|⟨e1,e2,rfl⟩|⟨e0,-⟩
  ·exact absurd e0 hno
  ·refine aA ?_
   exact zK2 fb fw xgp
  ·exact absurd e0 hno
 ·have l3:=last (fun q=>hb q.1)
  rcases l3 with ⟨rfl|rfl,e1,rfl⟩|⟨e1,e2,rfl⟩|⟨rfl|rfl,e1,rfl⟩
  all_goals
   refine aA ?_;exact qV fb xgp
def nS (p:PProg) (t:Nat) (r:PMach×Int):Prop:=r.2=1→1≤r.1.thr[t]!.pc∧r.1.thr[t]!.pc≤p.code.length∧p.code[(r.1.thr[t]!.pc-1).toNat]!.op=23∧r.1.thr[t]!.state=2
theorem yq5 {p:PProg} {C:Int} {m:PMach} (h:okMach p C m) {t:Nat} (ht:t<4):nS p t (dL p m t):=by
 obtain⟨-,-,-,-,p0,p1,-⟩:=mP h ht;have hn:=h.n;have no:∀(r:PMach×Int),r.2=-1∨r.2=2→nS p t r:=fun r hr h1=>by omega
 unfold dL;dsimp only;refine aQ (P:=nS p t) (fun _=>no _ (.inr rfl)) fun c0=>?_;refine aQ (P:=nS p t) (fun _=>no _ (.inl rfl)) fun _=>?_;refine aQ (P:=nS p t) (fun _=>no _ (.inl rfl)) fun _=>?_;refine aQ (P:=nS p t) (fun _=>no _ (.inl rfl)) fun _=>?_;refine aQ (P:=nS p t) (fun _=>no _ (.inl rfl)) fun _=>?_;refine aQ (P:=nS p t) (fun _=>?_) fun _=>?_
 ·refine aQ (P:=nS p t) (fun _=>no _ (.inr rfl)) fun _=>?_
  exact aQ (P:=nS p t) (fun _=>no _ (.inl rfl)) fun _=>no _ (.inl rfl)
 refine aQ (P:=nS p t) (fun _=>no _ (.inl rfl)) fun _=>?_;refine aQ (P:=nS p t) (fun _=>?_) fun _=>?_
 ·exact aQ (P:=nS p t) (fun _=>no _ (.inr rfl)) fun _=>no _ (.inl rfl)
 refine aQ (P:=nS p t) (fun _=>no _ (.inl rfl)) fun _=>?_;refine aQ (P:=nS p t) (fun _=>?_) fun _=>?_
 ·refine aQ (P:=nS p t) (fun _=>no _ (.inr rfl)) fun _=>?_
  exact aQ (P:=nS p t) (fun _=>no _ (.inr rfl)) fun _=>no _ (.inl rfl)
 refine aQ (P:=nS p t) (fun _=>?_) fun _=>?_
 ·exact aQ (P:=nS p t) (fun _=>no _ (.inr rfl)) fun _=>no _ (.inl rfl)
 refine aQ (P:=nS p t) (fun o=>?_) fun _=>?_
 ·intro _
  simp only [PMach.setT];rw [xf0 ω];dsimp only;rw [Int.add_sub_cancel];exact⟨ω,ω,o,rfl⟩
 ·exact aQ (P:=nS p t) (fun _=>no _ (.inr rfl)) fun _=>no _ (.inl rfl)
theorem ye0 {p:PProg} {D:Int} {t:Nat} (ht:t<4) {til:Int} (htD:til≤D):∀(k:Nat) (m:PMach),okMach p D m→m.thr[t]!.count<til→nS p t (sJ p t til k m)
 |0,m,_,_=>fun h=>by cases h
 |k+1,m,h,hc=>by
  have ok:=xmj h ht ω;unfold sJ;refine aQ (P:=nS p t) (fun _=>yq5 h ht) fun hg=>?_;have hg:(dL p m t).2=-1:=Classical.byContradiction hg;obtain⟨_,_,_,g⟩:=xjf h ht hg;refine aQ (P:=nS p t) (fun _=>fun h=>by cases h) fun hne=>?_;exact ye0 ht htD k _ ok (by rcases g with g|g<;>omega)
theorem ye3 {p:PProg} {C n:Int} {m:PMach} (h:okMach p C m) {t:Nat} (ht:t<4) (hn:1≤n):nS p t (vU p m t n):=by
 have h':okMach p (C+n) m:=h.le ω;obtain⟨_,_,_,_,_,_,_,h8,_⟩:=mP h ht;unfold vU;refine aQ (P:=nS p t) (fun _=>fun h=>by cases h) fun _=>?_;exact ye0 ht ω _ _ h' ω
theorem xrl (p:PProg) (m:PMach) (t:Nat):(dL p m t).1.lay=m.lay:=by obtain⟨me,y,e,-⟩:=xrk p m t;rw [e]
theorem ye1 {p:PProg} {t:Nat} {til:Int}:∀(k:Nat) (m:PMach),(sJ p t til k m).1.lay=m.lay
 |0,m=>rfl
 |k+1,m=>by
  unfold sJ;refine aQ (P:=fun r:PMach×Int=>r.1.lay=m.lay) (fun _=>xrl p m t) fun _=>?_;refine aQ (P:=fun r:PMach×Int=>r.1.lay=m.lay) (fun _=>xrl p m t) fun _=>?_;exact(ye1 k _).trans (xrl p m t)
theorem yuz (p:PProg) (m:PMach) (t:Nat) (n:Int):(vU p m t n).1.lay=m.lay:=by
 unfold vU;exact aQ (P:=fun r:PMach×Int=>r.1.lay=m.lay) (fun _=>rfl) fun _=>ye1 _ _
theorem xu9 {p:PProg} (h:okProg p) {x:PThr} (h1:1≤x.pc) (h2:x.pc≤p.code.length) (h3:p.code[(x.pc-1).toNat]!.op=23):0≤oZ p x∧oZ p x≤15:=by
 obtain⟨⟨-,-,-,-,-,⟨a,-,-⟩,-,-,b⟩,-,-⟩:=xg4 h (k:=(x.pc-1).toNat) ω;exact⟨a,b h3⟩
def uY (p:PProg) (l:PLay) (x:PThr) (k:Nat):List Canon:=(List.range k).map fun i=>jD l p.sizes x.regs[i]!
def wZ (p:PProg) (m:PMach) (x:PThr) (k:Nat):List Canon:=(List.range k).map fun i:Nat=>jD m.lay p.sizes (tJ m.mem (x.regs[1]!.val+(i:Int)))
def xcb (p:PProg) (m:PMach) (t:Nat) (stop:Int):PMach×Request:=
 let x:=m.thr[t]!
 if stop=2 then(m,⟨t,2,x.trap,x.count,x.pc,0,[],[]⟩)
 else if stop=1 then
  if uN p m.lay x≠0 then(m.setT t (xbr x (uN p m.lay x) 0),⟨t,2,uN p m.lay x,x.count,x.pc,0,[],[]⟩)
  else(m,⟨t,1,0,x.count,x.pc,oZ p x,uY p m.lay x (kl (oZ p x)).length,if iO (oZ p x)=1 then wZ p m x x.regs[2]!.val.toNat else []⟩)
 else(m,⟨t,stop,0,x.count,x.pc,0,[],[]⟩)
def uV (p:PProg) (m:PMach) (t:Nat) (n:Int):PMach×Request:=xcb p (vU p m t n).1 t (vU p m t n).2
theorem yg4 (p:PProg) (l:PLay) (x:PThr) (k:Nat):uY p l x (k+1)=uY p l x k++[jD l p.sizes x.regs[k]!]:=by
 unfold uY;rw [List.range_succ,List.map_append];rfl
theorem yin (p:PProg) (m:PMach) (x:PThr) (k:Nat):wZ p m x (k+1)=wZ p m x k++[jD m.lay p.sizes (tJ m.mem (x.regs[1]!.val+k))]:=by
 unfold wZ;rw [List.range_succ,List.map_append];rfl
theorem xo1 (p:PProg) (l:PLay) (x:PThr) (k:Nat):(uY p l x k).length=k:=by simp [uY]
theorem xv4 (p:PProg) (m:PMach) (x:PThr) (k:Nat):(wZ p m x k).length=k:=by simp [wZ]
theorem ysx {l:PLay} {s:List Int} (h:jW l s) {a:Int} {q:Int×Int} (hq:jR l.bases s 0 a=some q):a=l.bases[q.1.toNat]!+q.2:=by
 have key:∀(n k:Nat),k+n=s.length→jR (l.bases.drop k) (s.drop k) k a=some q→a=l.bases[q.1.toNat]!+q.2:=by
  intro n
  induction n with
  |zero=>intro k hk hr;rw [show k=s.length by omega,xn1 h.2.1] at hr;cases hr
  |succ n ih=>
   intro k hk hr;rw [xn0 ω h.2.1] at hr;by_cases c:l.bases[k]!≤a∧a<l.bases[k]!+s[k]!
   ·rw [if_pos c] at hr
    injection hr with hr;subst hr
    show a=l.bases[((k:Int)).toNat]!+(a-l.bases[k]!);rw [Int.toNat_natCast];omega
   ·rw [if_neg c] at hr
    exact ih (k+1) ω hr
 exact key s.length 0 ω hq
theorem yfj {l:PLay} {s:List Int} (h:jW l s) {c:Cell} {n:Int} (hw:(yA l s c n).2=0):0≤c.val∧c.val+n≤512:=by
 unfold yA at hw;by_cases ht:c.tag=1;rotate_left
 ·rw [if_pos ht] at hw;cases hw
 rw [if_neg (not_not_intro ht)] at hw;cases hq:jR l.bases s 0 c.val with
 |none=>rw [hq] at hw;cases hw
 |some q=>
  obtain⟨r,o⟩:=q;rw [hq] at hw;dsimp only at hw;by_cases e:n<0∨n>s[r.toNat]!-o
  ·rw [if_pos e] at hw;cases hw
  ·obtain⟨⟨i0,i1,i2,i3⟩,a0,a1⟩:=xd6 h hq
   have:=ysx h hq;dsimp only at i0 i1 i2 i3 this;have hl:=rG h (k:=r.toNat) ω;omega
def vT (l:PLay) (s:List Int) (rg:Int):Int→List Canon→PMem→PMem×Bool
 |_,[],m=>(m,true)
 |o,c::d,m=>if(iD l s c).2≠0∨¬nG s rg o then(m,false) else vT l s rg (o+1) d (xcf m (l.bases[rg.toNat]!+o) (iD l s c).1)
def xbb (p:PProg) (m:PMach) (q:Request) (x:Rdn.Result):PMem×Bool:=
 if iO q.call=2∧x.data≠[] then(if ¬mJ p.sizes q.args[1]!∨q.args[1]!.tag≠1 then(m.mem,false) else vT m.lay p.sizes q.args[1]!.region q.args[1]!.offset x.data m.mem) else(m.mem,true)
def kN (q:Request) (y:PThr) (v:Cell):PThr:=kT (if q.call=12 then {y with handler:=q.args[0]!.val} else y) v
def xda (q:Request) (x:Rdn.Result):Prop:=q.call=10∧0≤x.spawn
instance (q:Request) (x:Rdn.Result):Decidable (xda q x):=by unfold xda;exact inferInstance
def xd2 (p:PProg) (m:PMach) (q:Request) (x:Rdn.Result):List PThr:=if xda q x then m.thr.set x.spawn.toNat (lV q.args[0]!.val (iD m.lay p.sizes q.args[1]!).1) else m.thr
def xha (p:PProg) (m:PMach) (q:Request) (x:Rdn.Result):Prop:=(q.call=12→q.args[0]!.val≤255∧q.args[0]!.tag=0)∧(xda q x→(iD m.lay p.sizes q.args[1]!).2=0∧m.thr[x.spawn.toNat]!.state=0∧q.args[0]!.val≤255∧q.args[0]!.tag=0)
instance (p:PProg) (m:PMach) (q:Request) (x:Rdn.Result):Decidable (xha p m q x):=by unfold xha;exact inferInstance
def sG (p:PProg) (m:PMach) (t:Nat) (q:Request) (x:Rdn.Result):PMach×Bool:=
 if(iD m.lay p.sizes x.value).2≠0 then(m,false)
 else if(xbb p m q x).2=false then(⟨m.lay,(xbb p m q x).1,m.thr⟩,false)
 else if ¬xha p m q x then(⟨m.lay,(xbb p m q x).1,m.thr⟩,false)
 else(⟨m.lay,(xbb p m q x).1,(xd2 p m q x).set t (kN q m.thr[t]! (iD m.lay p.sizes x.value).1)⟩,true)
def xge (p:PProg) (m:PMach) (t:Nat) (q:Request) (x:Rdn.Result):PMach×Bool:=
 if q.call=0 then(m.setT t (xbr m.thr[t]! 0 q.args[0]!.val),true)
 else if x.wait=true then(m.setT t (xjz m.thr[t]!),true)
 else if(sG p m t q x).2=true then sG p m t q x
 else(m,false)
def kQ (c:Canon):Prop:=0≤c.val∧c.val≤65535
theorem xx7 {l:PLay} {s:List Int} (h:jW l s) {r o:Int} (hi:nG s r o):0≤l.bases[r.toNat]!+o∧l.bases[r.toNat]!+o<512:=by
 obtain⟨i0,i1,i2,i3⟩:=hi;have hl:=rG h (k:=r.toNat) ω;omega
theorem yc6 {l:PLay} {s:List Int} (h:jW l s) {rg:Int}:∀{d:List Canon} {o:Int} {m:PMem},nJ m→(∀c∈d,kQ c)→nJ (vT l s rg o d m).1
 |[],_,_,hm,_=>hm
 |c::d,o,m,hm,hd=>by
  unfold vT;refine aQ (P:=fun r:PMem×Bool=>nJ r.1) (fun _=>hm) fun hc=>?_;have hi:nG s rg o:=Classical.byContradiction fun q=>hc (.inr q);obtain⟨a0,a1⟩:=xx7 h hi;exact yc6 h (xt0 hm a0 a1 (xff l s (hd c ξ))) fun x hx=>hd x (by simp [hx])
theorem yrv {p:PProg} {C:Int} {m:PMach} (h:okMach p C m) {q:Request} {x:Rdn.Result} (hd:∀c∈x.data,kQ c):nJ (xbb p m q x).1:=by
 unfold xbb;refine aQ (P:=fun r:PMem×Bool=>nJ r.1) (fun _=>?_) fun _=>h.mem;exact aQ (P:=fun r:PMem×Bool=>nJ r.1) (fun _=>h.mem) fun _=>yc6 h.lay h.mem hd
theorem ys3 {C:Int} {y:PThr} (h:okThr C y) {v:Cell} (hv:iW v) {q:Request} (hq:q.call=12→0≤q.args[0]!.val∧q.args[0]!.val≤255):okThr C (kN q y v):=by
 unfold kN;refine yfe ?_ hv;refine aQ (P:=okThr C) (fun c=>?_) fun _=>h;obtain⟨a1,a2,a3,a4,a5,a6,a7,a8,a9,a10,a11⟩:=h;have:=hq c;exact⟨a1,a2,a3,a4,a5,a6,a7,a8,by show-1≤q.args[0]!.val;omega,by show q.args[0]!.val≤255;omega,a11⟩
theorem yrx {p:PProg} {C:Int} (hC:0≤C) {m:PMach} (h:okMach p C m) {q:Request} {x:Rdn.Result} (ha:∀c∈q.args,kQ c) (h2:q.call=10→q.args.length=2) (hc:xha p m q x):(xd2 p m q x).length=4∧∀y∈xd2 p m q x,okThr C y:=by
 unfold xd2;by_cases s:xda q x
 ·rw [if_pos s]
  have e:=h2 s.1;have r0:=ha _ (dJ (l:=q.args) (k:=0) ω);have r1:=ha _ (dJ (l:=q.args) (k:=1) ω);obtain⟨-,-,c3,-⟩:=hc.2 s;exact⟨by rw [List.length_set];exact h.n,fun y hy=>xcw (P:=okThr C) h.thr (ywj hC r0.1 c3 (xff _ _ r1)) hy⟩
 ·rw [if_neg s]
  exact⟨h.n,h.thr⟩
theorem yc8 {p:PProg} {C:Int} (hC:0≤C) {m:PMach} (h:okMach p C m) {t:Nat} (ht:t<4) {q:Request} {x:Rdn.Result} (hv:kQ x.value) (hd:∀c∈x.data,kQ c) (ha:∀c∈q.args,kQ c) (hl:q.call=10→q.args.length=2) (h12:q.call=12→q.args.length=1):okMach p C (sG p m t q x).1:=by
 have hm:=yrv h (q:=q) hd;have hk:okMach p C ⟨m.lay,(xbb p m q x).1,m.thr⟩:=⟨h.prog,h.lay,hm,h.n,h.thr⟩;unfold sG;refine aQ (P:=fun r:PMach×Bool=>okMach p C r.1) (fun _=>h) fun _=>?_;refine aQ (P:=fun r:PMach×Bool=>okMach p C r.1) (fun _=>hk) fun _=>?_;refine aQ (P:=fun r:PMach×Bool=>okMach p C r.1) (fun _=>hk) fun hc=>?_;have hc:xha p m q x:=Classical.not_not.1 hc;obtain⟨n1,n2⟩:=yrx hC h ha hl hc;refine⟨h.prog,h.lay,hm,by rw [List.length_set];exact n1,fun y hy=>xcw (P:=okThr C) n2 (ys3 (mP h ht) (xff _ _ hv) fun e=>?_) hy⟩;exact⟨(ha _ (dJ (l:=q.args) (k:=0) (by have:=h12 e;omega))).1,(hc.1 e).1⟩
theorem ylf {p:PProg} {C:Int} (hC:0≤C) {m:PMach} (h:okMach p C m) {t:Nat} (ht:t<4) {q:Request} {x:Rdn.Result} (hv:kQ x.value) (hd:∀c∈x.data,kQ c) (ha:∀c∈q.args,kQ c) (hl:q.call=10→q.args.length=2) (h12:q.call=12→q.args.length=1):okMach p C (xge p m t q x).1:=by
 unfold xge;refine aQ (P:=fun r:PMach×Bool=>okMach p C r.1) (fun _=>h.set (Int.le_refl C) h.mem t (xw1 (mP h ht) _ (Int.le_refl 0) δ)) fun _=>?_;refine aQ (P:=fun r:PMach×Bool=>okMach p C r.1) (fun _=>h.set (Int.le_refl C) h.mem t (yxi (mP h ht))) fun _=>?_;exact aQ (P:=fun r:PMach×Bool=>okMach p C r.1) (fun _=>yc8 hC h ht hv hd ha hl h12) fun _=>h
theorem yrt {l:PLay} {s:List Int} {rg o:Int} {d:List Canon} {m:PMem} {k:Nat} (hk:k<d.length) (h1:(iD l s d[k]!).2=0) (h2:nG s rg o):vT l s rg o (d.drop k) m=vT l s rg (o+1) (d.drop (k+1)) (xcf m (l.bases[rg.toNat]!+o) (iD l s d[k]!).1):=by
 rw [List.drop_eq_getElem_cons hk,vT,if_neg]
 ·rw [getElem!_pos d k hk]
 ·rw [←getElem!_pos d k hk]
  rintro(q|q)
  ·exact q h1
  ·exact q h2
theorem yc5 {l:PLay} {s:List Int} {rg o:Int} {d:List Canon} {m:PMem} {k:Nat} (hk:k<d.length) (h:(iD l s d[k]!).2≠0∨¬nG s rg o):vT l s rg o (d.drop k) m=(m,false):=by
 rw [List.drop_eq_getElem_cons hk,vT,if_pos];rw [←getElem!_pos d k hk];exact h
theorem yrs {l:PLay} {s:List Int} {rg o:Int} {d:List Canon} {m:PMem} {k:Nat} (hk:d.length≤k):vT l s rg o (d.drop k) m=(m,true):=by
 rw [List.drop_of_length_le hk,vT]
end Go.Proofs.YthmjocibdepahaaGreat
