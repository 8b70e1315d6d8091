import Derived.Test.YtbgpfigkcpmnfaaGreatA8
import Derived.Test.YtbgpfigkcpmnfaaGreatA5
import Derived.Test.YtbgpfigkcpmnfaaGreatA6
import Derived.Test.YtbgpfigkcpmnfaaGreatA9
import Derived.Test.YtbgpfigkcpmnfaaGreatA12
import Derived.Test.YtbgpfigkcpmnfaaGreatA10
import Derived.Test.YtbgpfigkcpmnfaaGreatA11
set_option linter.unusedSimpArgs false
set_option linter.unusedVariables false
set_option maxHeartbeats 64000000
set_option maxRecDepth 100000
namespace Go.Proofs.YtbgpfigkcpmnfaaGreat
open Go Go.RowKit Rdn Rdn.Dp
theorem xg7 (l:List Canon) (hb:l.length≤1000000000):Fnc Tryz.prog 26 [.sl false 4 (l.map xaf)] (fun x obs=>x=.sl true 4 (l.map xaf)∧obs=[]):=by
 refine zcf Tryz.prog 26 fun mz=>?_;refine Fnc.intro mz (by simp) fun W S=>?_;simp only [ents,Nat.zero_add,Nat.reduceAdd,Qm,Qc,Ql,QL,Qf,Qs,Qb,Qk,QB,Qn,Qe,Qx,Qt,Qu,Q0,Q1,Qp,Qw,Qq,Qr,Qi];refine zsu ?_;refine zs1 ?_;refine zsu ?_;refine xcv ?_;refine xy0 rfl trivial ?_;refine xl6 rfl rfl fun b hb0=>?_;cases b with
 |false=>
  simp only [aopP,X.ev,xae,AS.put,if_true];refine zst ?_;exact zrt mz
 |true=>
  have hl:l=[]:=by
   cases l with
   |nil=>rfl
   |cons a l=>exact absurd (hb0 (by simp)) (by simp)
  subst hl;simp only [aopP,X.ev,xae,AS.put,if_true];refine zsu ?_;refine zs1 ?_;refine zsu ?_;refine xfc 2 true 4 rfl ?_;exact zrt mz
def shortO (m:Nat) (l:List Output):Prop:=∀o∈l,o.data.length≤m
theorem xjv (l:List Output) (hb:l.length≤1000000000) (hd:shortO 1000000000 l):Fnc Tryz.prog 57 [.sl false 3 (l.map (xai false))] (fun x obs=>x=.own 0 0∧obs=[⟨.row 67,true,0,.arr 3 (l.map (xai true))⟩]):=by
 refine zcf Tryz.prog 57 fun mz=>?_;refine zgo mz fun W S=>?_;refine xcy (i:=3) (e:=67) (s:=3) rfl (by decide) ?_;refine zlk [6,7] (fun p:{p:Nat // p≤l.length}=>[(3,.own 0 p.1),(8,.int .i64 p.1)]) (fun p=>[⟨.row 67,true,p.1,.arr 3 ((l.take p.1).map (xai true))⟩]) (fun p=>l.length-p.1) (⟨0,by simp⟩) 1 ?_;intro J hJ
 rintro⟨k,hk0⟩
 by_cases hlt:k<l.length
 ·have hdk:l[k]!.data.length≤1000000000:=hd _ (xc9 hlt)
  have htl:(l.take k).length=k:=by simp;omega
  refine zst ?_;refine zcd (xg7 l[k]!.data hdk) ?_;exact zn1 (hJ _ (⟨k+1,hlt⟩) (by first|omega|(dsimp only;omega)|(simp;omega))) (xbl hlt)
 ·obtain rfl:k=l.length:=by omega
  refine zst ?_;refine ret mz [0] ?_;(first|(simp only [go_sem];done)|(simp only [go_sem];((try dsimp only);(repeat' (refine And.intro ?_ ?_))<;>first|with_reducible rfl|(simp only [go_sem];done)|(simp only [go_sem];rfl)|(simp only [go_sem,List.take_length];done)|(simp only [List.take_length];(try simp only [go_sem]);first|done|rfl)|(simp only [go_sem];simp [List.take_length];done)|(simp [List.take_length];done)|rfl)))
theorem xjw (l:List Output) (hb:l.length≤1000000000) (hd:shortO 1000000000 l):Fnc Tryz.prog 76 [.sl false 3 (l.map (xai false))] (fun x obs=>x=.own 0 0∧obs=[⟨.row 67,true,0,.arr 3 (l.map (xai true))⟩]):=by
 refine zcf Tryz.prog 76 fun mz=>?_;refine zgo mz fun W S=>?_;refine xcy (i:=3) (e:=67) (s:=3) rfl (by decide) ?_;refine zlk [6,7] (fun p:{p:Nat // p≤l.length}=>[(3,.own 0 p.1),(8,.int .i64 p.1)]) (fun p=>[⟨.row 67,true,p.1,.arr 3 ((l.take p.1).map (xai true))⟩]) (fun p=>l.length-p.1) (⟨0,by simp⟩) 1 ?_;intro J hJ
 rintro⟨k,hk0⟩
 by_cases hlt:k<l.length
 ·have hdk:l[k]!.data.length≤1000000000:=hd _ (xc9 hlt)
  have htl:(l.take k).length=k:=by simp;omega
  refine zst ?_;exact zn1 (hJ _ (⟨k+1,hlt⟩) (by first|omega|(dsimp only;omega)|(simp;omega))) (xbl hlt)
 ·obtain rfl:k=l.length:=by omega
  refine zst ?_;refine ret mz [0] ?_;(first|(simp only [go_sem];done)|(simp only [go_sem];((try dsimp only);(repeat' (refine And.intro ?_ ?_))<;>first|with_reducible rfl|(simp only [go_sem];done)|(simp only [go_sem];rfl)|(simp only [go_sem,List.take_length];done)|(simp only [List.take_length];(try simp only [go_sem]);first|done|rfl)|(simp only [go_sem];simp [List.take_length];done)|(simp [List.take_length];done)|rfl)))
def sSend (l:List Output) (s:Int) (d:List Canon):List Output×Int×Bool:=
 if s<0∨s≥2∨l.length≥200∨d.length>16 then(l,0,false) else(l++[⟨l.length,s,d⟩],d.length,true)
theorem wsend_fn (l:List Output) (s:Int) (d:List Canon) (hb:l.length≤1000000000) (hd:shortO 1000000000 l) (hdd:d.length≤1000000000):Fnc Tryz.prog 22 [.sl false 3 (l.map (xai false)),.int .i64 s,.sl false 4 (d.map xaf)] (fun x obs=>x=.tup [.sl false 3 ((sSend l s d).1.map (xai false)),.int .i64 (sSend l s d).2.1,.bool (sSend l s d).2.2]∧obs=[]):=by
 refine zcf Tryz.prog 22 fun mz=>?_;refine Fnc.low ?_;by_cases c1:s<0
 ·have e:sSend l s d=(l,0,false):=by rw [sSend,if_pos (.inl c1)]
  rw [e];refine zgo mz fun W S=>?_;refine zcx (xjv l hb hd) ?_;exact zrt mz
 by_cases c2:s≥2
 ·have e:sSend l s d=(l,0,false):=by rw [sSend,if_pos (.inr (.inl c2))]
  rw [e];refine zgo mz fun W S=>?_;refine zcx (xjv l hb hd) ?_;exact zrt mz
 by_cases c3:l.length≥200
 ·have e:sSend l s d=(l,0,false):=by rw [sSend,if_pos (.inr (.inr (.inl c3)))]
  rw [e];refine zgo mz fun W S=>?_;refine zcx (xjv l hb hd) ?_;exact zrt mz
 by_cases c4:d.length>16
 ·have e:sSend l s d=(l,0,false):=by rw [sSend,if_pos (.inr (.inr (.inr c4)))]
  rw [e];refine zgo mz fun W S=>?_;refine zcx (xjv l hb hd) ?_;exact zrt mz
 ·have e:sSend l s d=(l++[⟨l.length,s,d⟩],(d.length:Int),true):=by rw [sSend,if_neg (by omega)]
  rw [e];refine zgo mz fun W S=>?_;refine zcx (xjv l hb hd) ?_;refine zcd (xg7 d hdd) ?_;exact zrt mz
theorem yd4 (l:List Output) (s:Int) (d:List Canon) (hb:l.length≤1000000000) (hd:shortO 1000000000 l) (hdd:d.length≤1000000000):Fnc Tryz.prog 130 [.sl false 3 (l.map (xai false)),.int .i64 s,.sl false 4 (d.map xaf)] (fun x obs=>x=.tup [.sl false 3 ((sSend l s d).1.map (xai false)),.int .i64 (sSend l s d).2.1,.bool (sSend l s d).2.2]∧obs=[]):=by
 refine zcf Tryz.prog 130 fun mz=>?_;refine Fnc.low ?_;by_cases c1:s<0
 ·have e:sSend l s d=(l,0,false):=by rw [sSend,if_pos (.inl c1)]
  rw [e];refine zgo mz fun W S=>?_;refine zcx (xjw l hb hd) ?_;exact zrt mz
 by_cases c2:s≥2
 ·have e:sSend l s d=(l,0,false):=by rw [sSend,if_pos (.inr (.inl c2))]
  rw [e];refine zgo mz fun W S=>?_;refine zcx (xjw l hb hd) ?_;exact zrt mz
 by_cases c3:l.length≥200
 ·have e:sSend l s d=(l,0,false):=by rw [sSend,if_pos (.inr (.inr (.inl c3)))]
  rw [e];refine zgo mz fun W S=>?_;refine zcx (xjw l hb hd) ?_;exact zrt mz
 by_cases c4:d.length>16
 ·have e:sSend l s d=(l,0,false):=by rw [sSend,if_pos (.inr (.inr (.inr c4)))]
  rw [e];refine zgo mz fun W S=>?_;refine zcx (xjw l hb hd) ?_;exact zrt mz
 ·have e:sSend l s d=(l++[⟨l.length,s,d⟩],(d.length:Int),true):=by rw [sSend,if_neg (by omega)]
  rw [e];refine zgo mz fun W S=>?_;refine zcx (xjw l hb hd) ?_;exact zrt mz
end Go.Proofs.YtbgpfigkcpmnfaaGreat
namespace Go.Proofs.YtbgpfigkcpmnfaaGreat
open Go Go.RowKit Rdn Rdn.Dp
def yc8 (j:Nat) (o:Output):Prop:=o.seq=j∧0≤o.socket∧o.socket<2∧o.data.length≤16
def xho (l:List Output):Prop:=∀j,j<l.length→yc8 j l[j]!
noncomputable def ordB (l:List Output):Bool:=@decide (xho l) (Classical.propDecidable _)
theorem yex {l:List Output} (h:xho l):ordB l=true:=by unfold ordB;exact @decide_eq_true _ (Classical.propDecidable _) h
theorem xus {l:List Output} (h:¬xho l):ordB l=false:=by unfold ordB;exact @decide_eq_false _ (Classical.propDecidable _) h
theorem xtb (l:List Output):Fnc Tryz.prog 72 [.sl false 3 (l.map (xai false))] (fun x obs=>x=.bool (ordB l)∧obs=[]):=by
 refine zcf Tryz.prog 72 fun mz=>?_;refine Fnc.wf fun hw=>?_;simp only [V.wfs,V.wf,List.length_map] at hw;have hm:=hw.1.2;clear hw;refine zgo mz fun W S=>?_;refine zlk [5,6] (fun p:{p:Nat // p≤l.length∧∀j,j<p→yc8 j l[j]!}=>[(7,.int .i64 p.1)]) (fun _=>[]) (fun p=>l.length-p.1) (⟨0,by simp⟩) 0 ?_;intro J hJ
 rintro⟨k,hk0,hk1⟩
 by_cases hlt:k<l.length
 ·by_cases c1:l[k]!.seq=k
  ·by_cases c2:l[k]!.socket<0
   ·have hF:=xus (l:=l) fun h=>by have:=(h k hlt).2.1;omega
    rw [hF];refine zst ?_;exact zrt mz
   by_cases c3:l[k]!.socket≥2
   ·have hF:=xus (l:=l) fun h=>by have:=(h k hlt).2.2.1;omega
    rw [hF];refine zst ?_;exact zrt mz
   by_cases c4:l[k]!.data.length>16
   ·have hF:=xus (l:=l) fun h=>by have:=(h k hlt).2.2.2;omega
    rw [hF];refine zst ?_;exact zrt mz
   ·have okS:∀j,j<k+1→yc8 j l[j]!:=fun j hj=>by
     by_cases e:j=k
     ·subst e;exact⟨c1,by omega,by omega,by omega⟩
     ·exact hk1 j (by omega)
    refine zst ?_;exact zn0 (hJ _ (⟨k+1,hlt,okS⟩) (by first|omega|(dsimp only;omega)|(simp;omega))) hlt
  ·have hF:=xus (l:=l) fun h=>c1 (h k hlt).1
   rw [hF];refine zst ?_;exact zrt mz
 ·obtain rfl:k=l.length:=by omega
  have hT:=yex (l:=l) fun j hj=>hk1 j hj;rw [hT];refine zst ?_;exact zrt mz
end Go.Proofs.YtbgpfigkcpmnfaaGreat
namespace Go.Proofs.YtbgpfigkcpmnfaaGreat
open Go Go.RowKit Rdn Rdn.Dp
end Go.Proofs.YtbgpfigkcpmnfaaGreat
namespace Go.Proofs.YtbgpfigkcpmnfaaGreat
open Go Go.RowKit Rdn Rdn.Dp
theorem xjy (k:IntKind) (l:List Int) (n:Nat):(l.map (V.int k)).take n=(l.take n).map (V.int k):=by rw [List.map_take]
theorem xj7 (k:IntKind) (l:List Int) (n:Nat):(l.map (V.int k)).drop n=(l.drop n).map (V.int k):=by rw [List.map_drop]
attribute [local go_sem] xjy xj7 List.take_length
end Go.Proofs.YtbgpfigkcpmnfaaGreat
namespace Go.Proofs.YtbgpfigkcpmnfaaGreat
open Go Go.RowKit Rdn Rdn.Dp
def xd0 (wss:List (List Int)) (s n:Int):List (List Int)×List Canon×Bool:=
 if s<0∨s≥wss.length∨n<0 then(wss,[],false)
 else(wss.set s.toNat ((wss[s.toNat]!).drop (min n.toNat (wss[s.toNat]!).length)),numC ((wss[s.toNat]!).take (min n.toNat (wss[s.toNat]!).length)),true)
theorem yid {α:Type} (t:Bool) (s:Nat) (f:α→V) (l:List (List α)) (i:Nat) (d:List α):(l.map (slV' t s f)).set i (V.sl t s (d.map f))=(l.set i d).map (slV' t s f):=by rw [List.map_set]
attribute [local go_sem] xjy xj7 List.take_length yid
theorem xi2 (wss:List (List Int)) (hl:wss.length≤1000) (hw:∀w∈wss,w.length≤100000):Fnc Tryz.prog 74 [.sl false 1 (wss.map (slV' false 1 (V.int .u16)))] (fun x obs=>x=.own 0 0∧obs=[⟨.row 40,true,0,.arr 1 (wss.map (slV' true 1 (V.int .u16)))⟩]):=by
 refine zcf Tryz.prog 74 fun mz=>?_;refine zgo mz fun W S=>?_;refine xcy (i:=3) (e:=40) (s:=1) rfl (by decide) ?_;refine zlk [6,7] (fun p:{p:Nat // p≤wss.length}=>[(3,.own 0 p.1),(8,.int .i64 p.1)]) (fun p=>[⟨.row 40,true,p.1,.arr 1 ((wss.take p.1).map (slV' true 1 (V.int .u16)))⟩]) (fun p=>wss.length-p.1) (⟨0,by simp⟩) 1 ?_;intro J hJ
 rintro⟨k,hk0⟩
 by_cases hlt:k<wss.length
 ·have h1:=hw _ (xc9 hlt)
  have htl:(wss.take k).length=k:=by rw [List.length_take];omega
  have hs:=xbl hlt;refine zst ?_;exact zn1 (hJ _ (⟨k+1,hlt⟩) (by first|omega|(dsimp only;omega)|(simp;omega))) hs
 ·obtain rfl:k=wss.length:=by omega
  refine zst ?_;refine ret mz [0] ?_;(first|(simp only [go_sem];done)|(simp only [go_sem];((try dsimp only);(repeat' (refine And.intro ?_ ?_))<;>first|with_reducible rfl|(simp only [go_sem];done)|(simp only [go_sem];rfl)|(simp only [go_sem,List.take_length];done)|(simp only [List.take_length];(try simp only [go_sem]);first|done|rfl)|(simp only [go_sem];simp [List.take_length];done)|(simp [List.take_length];done)|rfl)))
theorem xzz (wss:List (List Int)) (s n:Int) (hl:wss.length≤1000) (hw:∀w∈wss,w.length≤100000):Fnc Tryz.prog 131 [.sl false 1 (wss.map (slV' false 1 (V.int .u16))),.int .i64 s,.int .i64 n] (fun x obs=>x=.tup [.sl false 1 ((xd0 wss s n).1.map (slV' false 1 (V.int .u16))),.sl false 4 ((xd0 wss s n).2.1.map xaf),.bool (xd0 wss s n).2.2]∧obs=[]):=by
 refine zcf Tryz.prog 131 fun mz=>?_;refine Fnc.low ?_;have fail:(s<0∨s≥wss.length∨n<0)→xd0 wss s n=(wss,[],false):=fun h=>by rw [xd0,if_pos h]
 by_cases c1:s<0
 ·rw [fail (.inl c1)]
  refine zgo mz fun W S=>?_;refine zcx (xi2 wss hl hw) ?_;refine xfc 7 false 4 rfl ?_;exact zrl mz
 by_cases c2:s≥wss.length
 ·rw [fail (.inr (.inl c2))]
  refine zgo mz fun W S=>?_;refine zcx (xi2 wss hl hw) ?_;refine xfc 7 false 4 rfl ?_;exact zrl mz
 by_cases c3:n<0
 ·rw [fail (.inr (.inr c3))]
  refine zgo mz fun W S=>?_;refine zcx (xi2 wss hl hw) ?_;refine xfc 7 false 4 rfl ?_;exact zrl mz
 obtain⟨S0,rfl⟩:=Int.eq_ofNat_of_zero_le (show 0≤s by omega);have hS0:S0<wss.length:=by omega
 obtain⟨w,hwe⟩:∃w,wss[S0]! =w:=⟨_,rfl⟩;have hwl:w.length≤100000:=by rw [←hwe];exact hw _ (xc9 hS0)
 obtain⟨M,hM⟩:∃M,M=min n.toNat w.length:=⟨_,rfl⟩;have hmin:(if(w.length:Int)<n then(w.length:Int) else n)=(M:Int):=by split<;>omega
 have e:xd0 wss S0 n=(wss.set S0 (w.drop M),numC (w.take M),true):=by
  rw [xd0,if_neg (by omega),Int.toNat_natCast,hwe,←hM]
 rw [e];obtain⟨X,hXe⟩:∃X,List.take M w=X:=⟨_,rfl⟩;have hX:X.length=M:=by rw [←hXe,List.length_take];omega
 have hg:(wss.map (slV' true 1 (V.int .u16))).getD S0 .junk=V.sl true 1 (w.map (V.int .u16)):=by rw [xb6 _ _ _ hS0,hwe]
 rw [hXe];refine zgo mz fun W S=>?_;refine zcx (xi2 wss hl hw) ?_
 repeat(first|(simp only [hwe,hmin,Int.toNat_natCast,hXe];try simp only [go_sem])|refine And.intro (by omega) ?_|refine And.intro rfl ?_|refine xd1 rfl rfl ?_|refine xax ?_|refine xbc (by kernel_rfl) ?_|(simp (disch:=omega) only [xbq,Nat.min_eq_left,Nat.min_eq_right,if_pos,if_neg,xb6,xaq,xbv,xen,xeu,xet,decT,decF,beqT,beqF,bneT,bneF,Int.toNat_natCast];try simp only [go_sem])|(refine xas rfl ?_ ?_;·(simp<;>omega))|(refine xaw rfl ?_ ?_;·(simp<;>omega))|((first|refine xb0 ?_|refine xd2 rfl ?_|refine xg9 rfl ?_|refine xew xap rfl (by kernel_rfl) ?_|refine xex xap rfl (by kernel_rfl) ?_|refine xey xap rfl (by kernel_rfl) ?_);simp only [go_sem]))
 refine xcy (i:=11) (e:=98) (s:=4) rfl (by decide) ?_;refine xay [1,9,10,41,42] (fun p:{p:Nat // p≤X.length}=>[(11,.own 1 p.1),(43,.int .i64 p.1)]) (fun p=>[⟨.row 40,true,0,.arr 1 (wss.map (slV' true 1 (V.int .u16)))⟩,⟨.row 98,true,p.1,.arr 4 ((numC (X.take p.1)).map xaf)⟩]) (fun p=>X.length-p.1) (⟨0,by simp⟩) 2 (by simp only [go_sem];rfl) ?_ (by first|rfl|(simp only [go_sem];done)|(simp only [go_sem];simp [xdo];done)) (by simp) (by first|rfl|(simp only [go_sem];done)) (by first|rfl|(simp only [go_sem];done)) (by first|rfl|(simp only [go_sem];done)|(simp only [xdo];(try simp only [go_sem]);first|done|rfl)) ?_
 ·(simp only [go_sem];(try simp [xdo]);done)
 intro J hJ
 rintro⟨k,hk0⟩
 by_cases hlt:k<X.length
 ·have hl2:=xh2 (X.take k)
  have hl3:(X.take k).length=k:=by rw [List.length_take];omega
  have hs:=xmx hlt;refine zst ?_;exact zn2 (hJ _ (⟨k+1,hlt⟩) (by first|omega|(dsimp only;omega)|(simp;omega))) hs
 obtain rfl:k=X.length:=by omega
 repeat(first|(simp only [Int.toNat_natCast,hg];try simp only [go_sem])|refine And.intro (by omega) ?_|refine And.intro rfl ?_|refine xd1 rfl rfl ?_|refine xax ?_|refine xbc (by kernel_rfl) ?_|(simp (disch:=omega) only [xbq,Nat.min_eq_left,Nat.min_eq_right,if_pos,if_neg,xb6,xaq,xbv,xen,xeu,xet,decT,decF,beqT,beqF,bneT,bneF,Int.toNat_natCast];try simp only [go_sem])|(refine xas rfl ?_ ?_;·(simp<;>omega))|(refine xaw rfl ?_ ?_;·(simp<;>omega))|((first|refine xb0 ?_|refine xd2 rfl ?_|refine xg9 rfl ?_|refine xew xap rfl (by kernel_rfl) ?_|refine xex xap rfl (by kernel_rfl) ?_|refine xey xap rfl (by kernel_rfl) ?_);simp only [go_sem]))
 exact zrt mz
end Go.Proofs.YtbgpfigkcpmnfaaGreat
namespace Go.Proofs.YtbgpfigkcpmnfaaGreat
open Go Go.RowKit Rdn Rdn.Dp
def fl0 (l:List Int) (k:Nat):Files:=⟨[numC (dws l k 5).1,numC (dws l (dws l k 5).2 3).1],xvv⟩
def kl0 (l:List Int) (k:Nat):Nat:=(dws l (dws l (dws l (dws l (dws l (dws l k 5).2 3).2 8).2 4).2 5).2 5).2
theorem xr5 (l:List Int):(numC l).all xcw=true:=by
 rw [List.all_eq_true];intro x hx;obtain⟨v,_,rfl⟩:=List.mem_map.1 hx;exact decT (.inl ⟨.inl rfl,rfl,rfl⟩)
theorem yg9 (l:List Int) (k:Nat):FitF (fl0 l k):=by
 have h1:=xe5 (l:=l) (k:=k) (n:=5) (by omega);have h2:=xe5 (l:=l) (k:=(dws l k 5).2) (n:=3) (by omega);refine⟨by show 2≤4;omega,rfl,fun x hx=>?_,fun x hx=>?_,fun o ho=>?_⟩
 ·simp [fl0] at hx
  rcases hx with rfl|rfl
  ·rw [xh2];omega
  ·rw [xh2];omega
 ·simp [fl0] at hx
  rcases hx with rfl|rfl
  ·exact xr5 _
  ·exact xr5 _
 ·simp [fl0,xvv] at ho;subst ho;exact .inl ⟨rfl,rfl,rfl⟩
theorem yk2 {l:List Int} {k:Nat} (hk:k≤l.length):kl0 l k≤l.length:=by unfold kl0;exact xh9 (xh9 (xh9 (xh9 (xh9 (xh9 hk 5) 3) 8) 4) 5) 5
end Go.Proofs.YtbgpfigkcpmnfaaGreat
namespace Go.Proofs.YtbgpfigkcpmnfaaGreat
open Go Go.RowKit Rdn Rdn.Dp
end Go.Proofs.YtbgpfigkcpmnfaaGreat
namespace Go.Proofs.YtbgpfigkcpmnfaaGreat
open Go Go.RowKit Rdn Rdn.Dp
theorem xbu:xcd Tryz.prog 71=some (83,Qr ([Qw 1 (.box 44 (.t 0)),Qc 2 (.bool false)])
 (.seq (Qr ([Qf 7 0 0 1,Ql 8 1 7,Qn 9 8,Qk 10 .gtr 9 4,Qm 11 10,Q0 12 11 (.fieldA 1 1 (.t 1)),Q0 13 11 (.load false 1 (.t 12)),Q0 14 11 (.len (.t 13)),Q0 15 11 (.bin 0 .neq (.t 14) (Qi 8)),Qt 16 11 15])
 (.cond (.t 16) (Qr ([Qc 2 (.bool false)])
 (.ret)) (.skip)))
 (.seq (Qr ([Qf 17 0 0 1,Ql 18 1 17,Qn 19 18,Qp 20 (.mov (Qi 0))])
 (.block 0 (.loop (Qr ([Qb 21 .lss 20 19])
 (.seq (.cond (.t 21) (.skip) (.exit 0))
 (.seq (.block 1 (Qr ([Qx 22 1 18 20,Ql 23 1 22,Qm 4 23])
 (Qr ([Qm 24 4,Qq 25 70 [(.t 24),(Qi 64)],Qp 26 (.un .not (.t 25))])
 (.cond (.t 26) (Qr ([Qc 2 (.bool false)])
 (.ret)) (.skip)))))
 (.reg [Qk 27 .add 20 1,Qm 20 27])))))))
 (.seq (Qr ([Qf 28 1 1 1,Ql 29 1 28,Qn 30 29,Qp 31 (.mov (Qi 0))])
 (.block 2 (.loop (Qr ([Qb 32 .lss 31 30])
 (.seq (.cond (.t 32) (.skip) (.exit 2))
 (.seq (.block 3 (Qr ([Qx 33 3 29 31,QL 34 3 33,Qw 6 (.alloc 193 (.agg [.int .i64 0,.int .i64 0,.bool false])),Qs 3 6 34])
 (.seq (.dreg [Qf 35 0 0 6,Ql 36 1 35,Qk 37 .eql 36 (-1),Qm 38 37,Q1 39 38 (.fieldA 1 1 (.t 6)),Q1 40 38 (.load false 1 (.t 39)),Q1 41 38 (.bin 0 .neq (.t 40) (Qi 0)),Q1 42 38 (.mov (.t 41)),Q0 43 42 (.fieldA 2 2 (.t 6)),Q0 44 42 (.load false 1 (.t 43)),Q1 45 38 (.pick (.t 42) (.c (.bool true)) (.t 44)),Qu 46 38 45,Qm 47 46,Q0 48 47 (.fieldA 0 0 (.t 6)),Q0 49 47 (.load false 1 (.t 48)),Q0 50 47 (.bin 0 .lss (.t 49) (Qi (-1))),Qt 51 47 50,Qm 52 51,Q0 53 52 (.fieldA 0 0 (.t 6)),Q0 54 52 (.load false 1 (.t 53)),Q0 55 52 (.fieldA 0 0 (.t 1)),Q0 56 52 (.load false 1 (.t 55)),Q0 57 52 (.len (.t 56)),Q0 58 52 (.bin 0 .geq (.t 54) (.t 57)),Qt 59 52 58,Qm 60 59,Q0 61 60 (.fieldA 0 0 (.t 6)),Q0 62 60 (.load false 1 (.t 61)),Q0 63 60 (.bin 0 .geq (.t 62) (Qi 0)),Q0 64 60 (.mov (.t 63)),Q1 65 64 (.fieldA 1 1 (.t 6)),Q1 66 64 (.load false 1 (.t 65)),Q1 67 64 (.bin 0 .lss (.t 66) (Qi 0)),Q1 68 64 (.mov (.t 67)),Q0 69 68 (.fieldA 1 1 (.t 6)),Q0 70 68 (.load false 1 (.t 69)),Q0 71 68 (.fieldA 0 0 (.t 1)),Q0 72 68 (.load false 1 (.t 71)),Q0 73 68 (.fieldA 0 0 (.t 6)),Q0 74 68 (.load false 1 (.t 73)),Q0 75 68 (.idxA 1 (.t 72) (.t 74)),Q0 76 68 (.load false 1 (.t 75)),Q0 77 68 (.len (.t 76)),Q0 78 68 (.bin 0 .gtr (.t 70) (.t 77)),Q1 79 64 (.pick (.t 68) (.c (.bool true)) (.t 78)),Q0 80 60 (.pick (.t 64) (.t 79) (.c (.bool false))),Qt 81 60 80] [[],[0],[0,1],[0,1,2],[0,1,2,3],[0,1,2,3,4],[0,1,2,3,4,5],[0,1,2,3,4,5,6],[0,1,2,3,4,5,6,7],[0,1,2,3,4,5,6,7,8],[0,1,2,3,4,5,6,7,8,9],[0,1,2,3,4,5,6,7,8,9,10],[0,1,2,3,4,5,6,7,8,9,10,11],[0,1,2,3,4,5,6,7,8,9,10,11,12],[0,1,2,3,4,5,6,7,8,9,10,11,12,13],[0,1,2,3,4,5,6,7,8,9,10,11,12,13,14],[0,1,2,3,4,5,6,7,8,9,10,11,12,13,14,15],[0,1,2,3,4,5,6,7,8,9,10,11,12,13,14,15,16],[0,1,2,3,4,5,6,7,8,9,10,11,12,13,14,15,16,17],[0,1,2,3,4,5,6,7,8,9,10,11,12,13,14,15,16,17,18],[0,1,2,3,4,5,6,7,8,9,10,11,12,13,14,15,16,17],[0,1,2,3,4,5,6,7,8,9,10,11,12,13,14,15,16,17,20],[0,1,2,3,4,5,6,7,8,9,10,11,12,13,14,15,16,17,20,21],[0,1,2,3,4,5,6,7,8,9,10,11,12,13,14,15,16,17,18,19,20,21,22],[0,1,2,3,4,5,6,7,8,9,10,11,12,13,14,15,16,17,18,19,20,21,22,23],[0,1,2,3,4,5,6,7,8,9,10,11,12,13,14,15,16,17,18,19,20,21,22,23,24],[0,1,2,3,4,5,6,7,8,9,10,11,12,13,14,15,16,17,18,19,20,21,22,23,24,25],[0,1,2,3,4,5,6,7,8,9,10,11,12,13,14,15,16,17,18,19,20,21,22,23,24,25,26],[0,1,2,3,4,5,6,7,8,9,10,11,12,13,14,15,16,17,18,19,20,21,22,23,24,25,26,27],[0,1,2,3,4,5,6,7,8,9,10,11,12,13,14,15,16,17,18,19,20,21,22,23,24,25,26,27,28],[0,1,2,3,4,5,6,7,8,9,10,11,12,13,14,15,16,17,18,19,20,21,22,23,24,25,26,27,28,29],[0,1,2,3,4,5,6,7,8,9,10,11,12,13,14,15,16,17,18,19,20,21,22,23,24,25,26,27,28,29,30],[0,1,2,3,4,5,6,7,8,9,10,11,12,13,14,15,16,17,18,19,20,21,22,23,24,25,26,27,28,29,30,31],[0,1,2,3,4,5,6,7,8,9,10,11,12,13,14,15,16,17,18,19,20,21,22,23,24,25,26,27,28,29,30,31,32],[0,1,2,3,4,5,6,7,8,9,10,11,12,13,14,15,16,17,18,19,20,21,22,23,24,25,26,27,28,29,30,31,32,33],[0,1,2,3,4,5,6,7,8,9,10,11,12,13,14,15,16,17,18,19,20,21,22,23,24,25,26,27,28,29,30,31,32,33,34],[0,1,2,3,4,5,6,7,8,9,10,11,12,13,14,15,16,17,18,19,20,21,22,23,24,25,26,27,28,29,30,31,32,33],[0,1,2,3,4,5,6,7,8,9,10,11,12,13,14,15,16,17,18,19,20,21,22,23,24,25,26,27,28,29,30,31,32,33,36],[0,1,2,3,4,5,6,7,8,9,10,11,12,13,14,15,16,17,18,19,20,21,22,23,24,25,26,27,28,29,30,31,32,33],[0,1,2,3,4,5,6,7,8,9,10,11,12,13,14,15,16,17,18,19,20,21,22,23,24,25,26,27,28,29,30,31,32,33,38],[0,1,2,3,4,5,6,7,8,9,10,11,12,13,14,15,16,17,18,19,20,21,22,23,24,25,26,27,28,29,30,31,32,33,36,37,38,39],[0,1,2,3,4,5,6,7,8,9,10,11,12,13,14,15,16,17,18,19,20,21,22,23,24,25,26,27,28,29,30,31,32,33,36,37,38,39,40],[0,1,2,3,4,5,6,7,8,9,10,11,12,13,14,15,16,17,18,19,20,21,22,23,24,25,26,27,28,29,30,31,32,33,36,37,38,39,40,41],[0,1,2,3,4,5,6,7,8,9,10,11,12,13,14,15,16,17,18,19,20,21,22,23,24,25,26,27,28,29,30,31,32,33,34,35,36,37,38,39,40,41,42],[0,1,2,3,4,5,6,7,8,9,10,11,12,13,14,15,16,17,18,19,20,21,22,23,24,25,26,27,28,29,30,31,32,33,34,35,36,37,38,39,40,41,42,43],[0,1,2,3,4,5,6,7,8,9,10,11,12,13,14,15,16,17,18,19,20,21,22,23,24,25,26,27,28,29,30,31,32,33,34,35,36,37,38,39,40,41,42,43,44],[0,1,2,3,4,5,6,7,8,9,10,11,12,13,14,15,16,17,18,19,20,21,22,23,24,25,26,27,28,29,30,31,32,33,34,35,36,37,38,39,40,41,42,43,44,45]])
 (.cond (.t 81) (Qr ([Qc 2 (.bool false)])
 (.ret)) (.skip)))))
 (.reg [Qk 82 .add 31 1,Qm 31 82])))))))
 (Qr ([Qc 2 (.bool true)])
 (.ret))))),[.mov (.t 2)]):=by kernel_rfl
noncomputable def valF (f:Files):Bool:=@decide (FitF f) (Classical.propDecidable _)
theorem yfa {f:Files} (h:FitF f):valF f=true:=by unfold valF;exact @decide_eq_true _ (Classical.propDecidable _) h
theorem xk0 {f:Files} (h:¬FitF f):valF f=false:=by unfold valF;exact @decide_eq_false _ (Classical.propDecidable _) h
theorem ybi {f:Files} {k:Nat} (hk:k<f.data.length) (h:xba f.data[k]! 64=false):¬FitF f:=fun F=>by
 have h1:=F.len _ (xc9 hk);have h2:=F.cell _ (xc9 hk);unfold xba at h;rw [h2,decT (by omega)] at h;exact absurd h (by decide)
theorem okO_F {f:Files} {i:Nat} (hi:i<f.opens.length) (h:¬okO f f.opens[i]!):¬FitF f:=fun F=>h (F.ok _ (xc9 hi))
theorem yd7 (f:Files):Fnc Tryz.prog 71 [filV f] (fun x obs=>x=.bool (valF f)∧obs=[]):=by
 refine Fnc.wf fun hw=>?_;have hm:∀k,k<f.data.length→f.data[k]!.length≤140737488355328:=fun k hk=>by
  have:=hw.1;simp only [V.wf,V.wfs,xdw] at this;have:=this.1.1 _ (xc9 hk);simp only [slV',V.wf,List.length_map] at this;exact this.2
 simp only [V.wfs,V.wf,List.length_map] at hw;have m1:=hw.1.1.2;have m2:=hw.1.2.1.2;clear hw;by_cases hl:f.data.length≤4
 ·by_cases ho:f.opens.length=8
  ·skip
   refine zgo xbu fun W S=>?_;refine zlk [1,18,19] (fun p:{p:Nat // p≤f.data.length∧∀j,j<p→xba f.data[j]! 64=true}=>[(20,.int .i64 p.1)]) (fun _=>[⟨.box false 44,true,0,filV f⟩]) (fun p=>f.data.length-p.1) (⟨0,by simp⟩) 1 ?_;intro J hJ
   rintro⟨k,hk0,hk1⟩
   by_cases hlt:k<f.data.length
   ·have h3:=hm k hlt
    have fc:=xic f.data[k]! 64;by_cases e:xba f.data[k]! 64=true
    ·rw [e] at fc
     have hS:∀j,j<k+1→xba f.data[j]! 64=true:=fun j hj=>by
      by_cases e':j=k
      ·subst e';exact e
      ·exact hk1 j (by omega)
     refine zst ?_;refine zcd (fc) ?_;exact zn1 (hJ _ (⟨k+1,hlt,hS⟩) (by first|omega|(dsimp only;omega)|(simp;omega))) hlt
    ·rw [Bool.not_eq_true] at e
     rw [e] at fc;rw [xk0 (ybi hlt e)];refine zst ?_;refine zcd (fc) ?_;exact zrt xbu
   ·obtain rfl:k=f.data.length:=by omega
    refine zst ?_;refine zlk [1,29,30] (fun p:{p:Nat // p≤8∧∀j,j<p→okO f f.opens[j]!}=>[(31,.int .i64 p.1)]) (fun _=>[⟨.box false 44,true,0,filV f⟩]) (fun p=>8-p.1) (⟨0,by simp⟩) 1 ?_;intro J hJ
    rintro⟨i,hi0,hi1⟩
    by_cases hlt2:i<8
    ·have hS (h:okO f f.opens[i]!):∀j,j<i+1→okO f f.opens[j]!:=fun j hj=>by
      by_cases e':j=i
      ·subst e';exact h
      ·exact hi1 j (by omega)
     have hF:=fun h=>okO_F (f:=f) (i:=i) (by omega) h;generalize ho':f.opens[i]! =o at hS hF;by_cases c1:o.file=-1
     ·by_cases c2:o.offset=0
      ·cases c3:o.write
       ·have hS:=hS (.inl ⟨c1,c2,c3⟩)
        repeat(first|(simp only [ho',c3];try simp only [go_sem])|refine And.intro (by omega) ?_|refine And.intro rfl ?_|refine xd1 rfl rfl ?_|refine xax ?_|refine xbc (by kernel_rfl) ?_|(simp (disch:=omega) only [xbq,Nat.min_eq_left,Nat.min_eq_right,if_pos,if_neg,xb6,xaq,xbv,xen,xeu,xet,decT,decF,beqT,beqF,bneT,bneF,Int.toNat_natCast];try simp only [go_sem])|(refine xas rfl ?_ ?_;·(simp<;>omega))|(refine xaw rfl ?_ ?_;·(simp<;>omega))|((first|refine xb0 ?_|refine xd2 rfl ?_|refine xg9 rfl ?_|refine xew xap rfl (by kernel_rfl) ?_|refine xex xap rfl (by kernel_rfl) ?_|refine xey xap rfl (by kernel_rfl) ?_);simp only [go_sem]))
        exact zn1 (hJ _ (⟨i+1,hlt2,hS⟩) (by first|omega|(dsimp only;omega)|(simp;omega))) hlt2
       ·rw [xk0 (hF fun h=>by
         rcases h with h|h
         ·rw [c3] at h;exact absurd h.2.2 (by decide)
         ·omega)]
        repeat(first|(simp only [ho',c3];try simp only [go_sem])|refine And.intro (by omega) ?_|refine And.intro rfl ?_|refine xd1 rfl rfl ?_|refine xax ?_|refine xbc (by kernel_rfl) ?_|(simp (disch:=omega) only [xbq,Nat.min_eq_left,Nat.min_eq_right,if_pos,if_neg,xb6,xaq,xbv,xen,xeu,xet,decT,decF,beqT,beqF,bneT,bneF,Int.toNat_natCast];try simp only [go_sem])|(refine xas rfl ?_ ?_;·(simp<;>omega))|(refine xaw rfl ?_ ?_;·(simp<;>omega))|((first|refine xb0 ?_|refine xd2 rfl ?_|refine xg9 rfl ?_|refine xew xap rfl (by kernel_rfl) ?_|refine xex xap rfl (by kernel_rfl) ?_|refine xey xap rfl (by kernel_rfl) ?_);simp only [go_sem]))
        exact zrt xbu
      ·rw [xk0 (hF fun h=>by rcases h with h|h<;>omega)]
       refine zsx ho' ?_;exact zrt xbu
     by_cases c2:o.file< -1
     ·rw [xk0 (hF fun h=>by rcases h with h|h<;>omega)]
      refine zsx ho' ?_;exact zrt xbu
     by_cases c3:f.data.length≤o.file
     ·rw [xk0 (hF fun h=>by rcases h with h|h<;>omega)]
      refine zsx ho' ?_;exact zrt xbu
     by_cases c4:o.offset<0
     ·rw [xk0 (hF fun h=>by rcases h with h|h<;>omega)]
      refine zsx ho' ?_;exact zrt xbu
     by_cases c5:o.offset≤f.data[o.file.toNat]!.length
     ·have hS:=hS (.inr ⟨by omega,by omega,by omega,c5⟩)
      refine zsx ho' ?_;exact zn1 (hJ _ (⟨i+1,hlt2,hS⟩) (by first|omega|(dsimp only;omega)|(simp;omega))) hlt2
     ·rw [xk0 (hF fun h=>by rcases h with h|h<;>omega)]
      refine zsx ho' ?_;exact zrt xbu
    ·rw [yfa ⟨hl,ho,fun x hx=>by
      obtain⟨j,hj,rfl⟩:=xnp hx;have:=hk1 j hj;unfold xba at this;simp only [Bool.and_eq_true,decide_eq_true_eq] at this;omega,fun x hx=>by
      obtain⟨j,hj,rfl⟩:=xnp hx;have:=hk1 j hj;unfold xba at this;simp only [Bool.and_eq_true] at this;exact this.1,fun o h=>by
      obtain⟨j,hj,rfl⟩:=xnp h;exact hi1 j (by omega)⟩]
     refine zst ?_;exact zrt xbu
  ·rw [xk0 fun F=>ho F.o]
   refine zgo xbu fun W S=>?_;exact zrt xbu
 ·rw [xk0 fun F=>hl F.d]
  refine zgo xbu fun W S=>?_;exact zrt xbu
end Go.Proofs.YtbgpfigkcpmnfaaGreat
namespace Go.Proofs.YtbgpfigkcpmnfaaGreat
open Go Go.RowKit Rdn Rdn.Dp
instance (f:Files) (o:Opn):Decidable (okO f o):=by unfold okO;exact inferInstance
end Go.Proofs.YtbgpfigkcpmnfaaGreat
namespace Go.Proofs.YtbgpfigkcpmnfaaGreat
open Go Go.RowKit Rdn Rdn.Dp
attribute [local irreducible] xvv numC
end Go.Proofs.YtbgpfigkcpmnfaaGreat
namespace Go.Proofs.YtbgpfigkcpmnfaaGreat
open Go Go.RowKit Rdn Rdn.Dp
abbrev owV (w:List Int):V:=.sl false 1 (u16s w)
abbrev xct (o:Rdn.Outside):V:=.agg [owV o.clock,owV o.random,.sl false 1 (o.inputs.map (slV' false 1 (V.int .u16))),filV o.files,.sl false 3 (o.outputs.map (xai false))]
structure FitO (o:Rdn.Outside):Prop where
 c:o.clock.length≤64
 r:o.random.length≤64
 i:o.inputs.length≤2
 w:∀x∈o.inputs,x.length≤64
 f:FitF o.files
 n:o.outputs.length≤200
 od:xho o.outputs
 d:∀x∈o.outputs,xba x.data 16=true
noncomputable def valO (o:Rdn.Outside):Bool:=@decide (FitO o) (Classical.propDecidable _)
theorem xhe {o:Rdn.Outside} (h:FitO o):valO o=true:=by unfold valO;exact @decide_eq_true _ (Classical.propDecidable _) h
theorem xkz {o:Rdn.Outside} (h:¬FitO o):valO o=false:=by unfold valO;exact @decide_eq_false _ (Classical.propDecidable _) h
theorem yis {o:Rdn.Outside} (h:valO o=true):FitO o:=by
 unfold valO at h;exact @of_decide_eq_true _ (Classical.propDecidable _) h
end Go.Proofs.YtbgpfigkcpmnfaaGreat
namespace Go.Proofs.YtbgpfigkcpmnfaaGreat
open Go Go.RowKit Rdn Rdn.Dp
theorem xdr (o:Rdn.Outside):Fnc Tryz.prog 42 [xct o] (fun x obs=>x=.bool (valO o)∧obs=[]):=by
 refine zcf Tryz.prog 42 fun mz=>?_;refine Fnc.wf fun hw=>?_;have hm:∀k,k<o.inputs.length→o.inputs[k]!.length≤140737488355328:=fun k hk=>by
  have:=hw.1;simp only [V.wf,V.wfs,xdw] at this;have:=this.2.2.1.1 _ (xc9 hk);simp only [slV',V.wf,List.length_map] at this;exact this.2
 simp only [V.wfs,V.wf,xdw,List.length_map] at hw;have m1:=hw.1.1.2;have m2:=hw.1.2.1.2;have m3:=hw.1.2.2.1.2;have m4:=hw.1.2.2.2.2.1.2;clear hw;refine zgo mz fun W S=>?_;refine zlk [1,8,9] (fun p:{p:Nat // p≤o.inputs.length∧∀j,j<p→o.inputs[j]!.length≤64}=>[(10,.int .i64 p.1)]) (fun _=>[⟨.box false 47,true,0,xct o⟩]) (fun p=>o.inputs.length-p.1) (⟨0,by simp⟩) 1 ?_;intro J hJ
 rintro⟨k,hk0,hk1⟩
 by_cases hlt:k<o.inputs.length
 ·have h3:=hm k hlt
  by_cases c:o.inputs[k]!.length≤64
  ·have hS:∀j,j<k+1→o.inputs[j]!.length≤64:=fun j hj=>by
    by_cases e':j=k
    ·subst e';exact c
    ·exact hk1 j (by omega)
   refine zst ?_;exact zn1 (hJ _ (⟨k+1,hlt,hS⟩) (by first|omega|(dsimp only;omega)|(simp;omega))) hlt
  ·rw [xkz (fun F=>c (F.w _ (xc9 hlt)))]
   refine zst ?_;exact zrt mz
 obtain rfl:k=o.inputs.length:=by omega
 refine zst ?_;refine zlk [1,19,20] (fun p:{p:Nat // p≤o.outputs.length∧∀j,j<p→xba o.outputs[j]!.data 16=true}=>[(21,.int .i64 p.1)]) (fun _=>[⟨.box false 47,true,0,xct o⟩]) (fun p=>o.outputs.length-p.1) (⟨0,by simp⟩) 1 ?_;intro J hJ
 rintro⟨i,hi0,hi1⟩
 by_cases hl2:i<o.outputs.length
 ·have fc:=xic o.outputs[i]!.data 16
  by_cases e:xba o.outputs[i]!.data 16=true
  ·rw [e] at fc
   have hS:∀j,j<i+1→xba o.outputs[j]!.data 16=true:=fun j hj=>by
    by_cases e':j=i
    ·subst e';exact e
    ·exact hi1 j (by omega)
   refine zst ?_;refine zcd (fc) ?_;exact zn1 (hJ _ (⟨i+1,hl2,hS⟩) (by first|omega|(dsimp only;omega)|(simp;omega))) hl2
  ·rw [Bool.not_eq_true] at e
   rw [e] at fc;rw [xkz (fun F=>by rw [F.d _ (xc9 hl2)] at e;cases e)];refine zst ?_;refine zcd (fc) ?_;exact zrt mz
 obtain rfl:i=o.outputs.length:=by omega
 have f2:=yd7 o.files;have f3:=xtb o.outputs;by_cases c1:o.clock.length≤64;rotate_left
 ·rw [xkz (fun F=>c1 F.c)]
  refine zst ?_;exact zrt mz
 by_cases c2:o.random.length≤64;rotate_left
 ·rw [xkz (fun F=>c2 F.r)]
  refine zst ?_;exact zrt mz
 by_cases c3:o.inputs.length≤2;rotate_left
 ·rw [xkz (fun F=>c3 F.i)]
  refine zst ?_;exact zrt mz
 cases c6:valF o.files with
 |false=>
  rw [c6] at f2;rw [xkz (fun F=>by rw [yfa F.f] at c6;cases c6)];refine zst ?_;refine zcd (f2) ?_;exact zrt mz
 |true=>
  rw [c6] at f2;by_cases c4:o.outputs.length≤200;rotate_left
  ·rw [xkz (fun F=>c4 F.n)]
   refine zst ?_;refine zcd (f2) ?_;exact zrt mz
  cases c7:ordB o.outputs with
  |false=>
   rw [c7] at f3;rw [xkz (fun F=>by rw [yex F.od] at c7;cases c7)];refine zst ?_;refine zcd (f2) ?_;refine zcd (f3) ?_;exact zrt mz
  |true=>
   rw [c7] at f3;have hF:FitF o.files:=by
    unfold valF at c6;exact @of_decide_eq_true _ (Classical.propDecidable _) c6
   have hO:xho o.outputs:=by
    unfold ordB at c7;exact @of_decide_eq_true _ (Classical.propDecidable _) c7
   rw [xhe ⟨c1,c2,c3,fun x hx=>by
    obtain⟨j,hj,rfl⟩:=xnp hx;exact hk1 j hj,hF,c4,hO,fun x hx=>by
    obtain⟨j,hj,rfl⟩:=xnp hx;exact hi1 j hj⟩]
   refine zst ?_;refine zcd (f2) ?_;refine zcd (f3) ?_;exact zrt mz
end Go.Proofs.YtbgpfigkcpmnfaaGreat
namespace Go.Proofs.YtbgpfigkcpmnfaaGreat
open Go Go.RowKit Rdn Rdn.Dp
attribute [local go_sem] List.take_length
theorem yct (f:Files) (F:LowF f):Fnc Tryz.prog 75 [filV f] (fun x obs=>x=filV f∧obs=[]):=by
 refine zcf Tryz.prog 75 fun mz=>?_;refine Fnc.low ?_;have h1:=F.d;have h2:=F.o;refine zgo mz fun W S=>?_;refine xb8 3 0 65 1 rfl rfl (by decide) rfl ?_;refine zlk [2,3,11,12] (fun p:{p:Nat // p≤f.data.length}=>[(13,.int .i64 p.1)]) (fun p=>[⟨.box false 44,true,0,filV f⟩,⟨.box false 44,true,0,.agg [.nilS,.nilS]⟩,⟨.row 193,true,0,.arr 3 (f.opens.map opnV)⟩,⟨.box false 44,true,0,.agg [.own 4 p.1,.own 2 0]⟩,⟨.row 65,true,p.1,.arr 1 ((f.data.take p.1).map (slV' true 4 xaf))⟩]) (fun p=>f.data.length-p.1) (⟨0,by simp⟩) 5 ?_;intro J hJ
 rintro⟨k,hk0⟩
 by_cases hlt:k<f.data.length
 ·have hs:=xbl hlt
  have hb:=F.len _ (xc9 hlt);have hl2:(f.data.take k).length=k:=by rw [List.length_take];omega
  refine zst ?_;exact zn5 (hJ _ (⟨k+1,hlt⟩) (by first|omega|(dsimp only;omega)|(simp;omega))) hs
 ·obtain rfl:k=f.data.length:=by omega
  refine zst ?_;exact zrl mz
theorem xvs (wss:List (List Int)) (hl:wss.length≤1000) (hw:∀w∈wss,w.length≤100000):Fnc Tryz.prog 74 [.sl false 1 (wss.map (slV' false 1 (V.int .u16)))] (fun x obs=>x=.sl false 1 (wss.map (slV' false 1 (V.int .u16)))∧obs=[]):=by
 refine zcf Tryz.prog 74 fun mz=>?_;refine Fnc.low ?_;refine zgo mz fun W S=>?_;refine xcy (i:=3) (e:=40) (s:=1) rfl (by decide) ?_;refine zlk [6,7] (fun p:{p:Nat // p≤wss.length}=>[(3,.own 0 p.1),(8,.int .i64 p.1)]) (fun p=>[⟨.row 40,true,p.1,.arr 1 ((wss.take p.1).map (slV' true 1 (V.int .u16)))⟩]) (fun p=>wss.length-p.1) (⟨0,by simp⟩) 1 ?_;intro J hJ
 rintro⟨k,hk0⟩
 by_cases hlt:k<wss.length
 ·have h1:=hw _ (xc9 hlt)
  have htl:(wss.take k).length=k:=by rw [List.length_take];omega
  have hs:=xbl hlt;refine zst ?_;exact zn1 (hJ _ (⟨k+1,hlt⟩) (by first|omega|(dsimp only;omega)|(simp;omega))) hs
 ·obtain rfl:k=wss.length:=by omega
  refine zst ?_;exact zrl mz
theorem ydl (l:List Output) (hb:l.length≤1000000000) (hd:shortO 1000000000 l):Fnc Tryz.prog 76 [.sl false 3 (l.map (xai false))] (fun x obs=>x=.sl false 3 (l.map (xai false))∧obs=[]):=by
 refine zcf Tryz.prog 76 fun mz=>?_;refine Fnc.low ?_;refine zgo mz fun W S=>?_;refine xcy (i:=3) (e:=67) (s:=3) rfl (by decide) ?_;refine zlk [6,7] (fun p:{p:Nat // p≤l.length}=>[(3,.own 0 p.1),(8,.int .i64 p.1)]) (fun p=>[⟨.row 67,true,p.1,.arr 3 ((l.take p.1).map (xai true))⟩]) (fun p=>l.length-p.1) (⟨0,by simp⟩) 1 ?_;intro J hJ
 rintro⟨k,hk0⟩
 by_cases hlt:k<l.length
 ·have hdk:l[k]!.data.length≤1000000000:=hd _ (xc9 hlt)
  have htl:(l.take k).length=k:=by simp;omega
  refine zst ?_;exact zn1 (hJ _ (⟨k+1,hlt⟩) (by first|omega|(dsimp only;omega)|(simp;omega))) (xbl hlt)
 ·obtain rfl:k=l.length:=by omega
  refine zst ?_;exact zrl mz
theorem FitO.short {o:Rdn.Outside} (F:FitO o):shortO 1000000000 o.outputs:=fun x hx=>by
 have:=F.d x hx;unfold xba at this;simp only [Bool.and_eq_true,decide_eq_true_eq] at this;omega
theorem xec (o:Rdn.Outside) (F:FitO o):Fnc Tryz.prog 44 [xct o] (fun x obs=>x=xct o∧obs=[]):=by
 refine zcf Tryz.prog 44 fun mz=>?_;refine Fnc.low ?_;have h1:=F.c;have h2:=F.r;have h3:=F.i;have h4:=F.n;have f1:=xvs o.inputs (by omega) (fun w hw=>by have:=F.w w hw;omega);have f2:=yct o.files F.f.low;have f3:=ydl o.outputs (by omega) F.short;refine zgo mz fun W S=>?_;refine zcd (f1) ?_;refine zcd (f2) ?_;refine zcd (f3) ?_;exact zrt mz
end Go.Proofs.YtbgpfigkcpmnfaaGreat
namespace Go.Proofs.YtbgpfigkcpmnfaaGreat
open Go Go.RowKit Rdn Rdn.Dp
def noO:Rdn.Outside:=⟨[],[],[],⟨[],[]⟩,[]⟩
theorem noO_V:xct noO=.agg [.sl false 1 [],.sl false 1 [],.sl false 1 [],filV ⟨[],[]⟩,.sl false 3 []]:=rfl
attribute [local irreducible] xvv numC valO
end Go.Proofs.YtbgpfigkcpmnfaaGreat
namespace Go.Proofs.YtbgpfigkcpmnfaaGreat
open Go Go.RowKit Rdn Rdn.Dp
def kb (c:Int):ByteArray:=if c=0∨c=8∨c=9∨c=11∨c=12 then⟨#[78]⟩ else if c=1∨c=2 then⟨#[72,80,78]⟩ else if c=3 then⟨#[78,78]⟩ else if c=4 then⟨#[72]⟩ else if c=5 then⟨#[72,78]⟩ else if c=10 then⟨#[78,88]⟩ else if c=13∨c=14 then⟨#[78,80,78]⟩ else ByteArray.empty
def kl (c:Int):List Int:=if c=0∨c=8∨c=9∨c=11∨c=12 then [78] else if c=1∨c=2 then [72,80,78] else if c=3 then [78,78] else if c=4 then [72] else if c=5 then [72,78] else if c=10 then [78,88] else if c=13∨c=14 then [78,80,78] else []
def bufS (c:Int):Int:=if c=1∨c=13 then 1 else if c=2∨c=14 then 2 else 0
def actB (c:Int):Bool:=decide (1≤c∧c≤7∨c=13∨c=14)
theorem xi0 {c:Int} (h0:0≤c) (h1:c≤15):c=0∨c=1∨c=2∨c=3∨c=4∨c=5∨c=6∨c=7∨c=8∨c=9∨c=10∨c=11∨c=12∨c=13∨c=14∨c=15:=by omega
theorem xt9 (c:Int):Fnc Tryz.prog 102 [.int .i64 c] (fun x obs=>x=.str (kb c)∧obs=[]):=by
 refine zcf Tryz.prog 102 fun mz=>?_;by_cases h:0≤c∧c≤15
 ·rcases xi0 h.1 h.2 with rfl|rfl|rfl|rfl|rfl|rfl|rfl|rfl|rfl|rfl|rfl|rfl|rfl|rfl|rfl|rfl<;>clear h
  all_goals
   refine zgo mz fun W S=>?_;exact zrt mz
 ·rw [show kb c=ByteArray.empty by
   unfold kb;rw [if_neg (by omega),if_neg (by omega),if_neg (by omega),if_neg (by omega),if_neg (by omega),if_neg (by omega),if_neg (by omega)]]
  refine zgo mz fun W S=>?_;exact zrt mz
theorem xca (c:Int) (h0:0≤c) (h1:c≤15):Fnc Tryz.prog 85 [.int .i64 c] (fun x obs=>x=.int .i64 (bufS c)∧obs=[]):=by
 refine zcf Tryz.prog 85 fun mz=>?_;rcases xi0 h0 h1 with rfl|rfl|rfl|rfl|rfl|rfl|rfl|rfl|rfl|rfl|rfl|rfl|rfl|rfl|rfl|rfl<;>clear h0 h1
 all_goals
  refine zgo mz fun W S=>?_;exact zrt mz
theorem xg5 (c:Int):Fnc Tryz.prog 123 [.int .i64 c] (fun x obs=>x=.bool (actB c)∧obs=[]):=by
 refine zcf Tryz.prog 123 fun mz=>?_;by_cases h:0≤c∧c≤15
 ·rcases xi0 h.1 h.2 with rfl|rfl|rfl|rfl|rfl|rfl|rfl|rfl|rfl|rfl|rfl|rfl|rfl|rfl|rfl|rfl<;>clear h
  all_goals
   refine zgo mz fun W S=>?_;exact zrt mz
 ·rw [show actB c=false from decF (by omega)]
  by_cases h1:c<0
  ·skip
   refine zgo mz fun W S=>?_;exact zrt mz
  ·skip
   refine zgo mz fun W S=>?_;exact zrt mz
end Go.Proofs.YtbgpfigkcpmnfaaGreat
namespace Go.Proofs.YtbgpfigkcpmnfaaGreat
open Go Go.RowKit Rdn Rdn.Dp
abbrev reqV (q:Request):V:=.agg [.int .i64 q.thread,.int .i64 q.stop,.int .i64 q.trap,.int .i64 q.count,.int .i64 q.pc,.int .i64 q.call,.sl false 4 (q.args.map xaf),.sl false 4 (q.data.map xaf)]
structure FitQ (q:Request):Prop where
 thread:0≤q.thread∧q.thread≤3
 stop:0≤q.stop∧q.stop≤3
 trap:0≤q.trap∧q.trap≤6
 count:0≤q.count∧q.count≤1099511627776
 pc:0≤q.pc∧q.pc≤255
 call:0≤q.call∧q.call≤15
 args:xba q.args 3=true
 data:xba q.data 16=true
noncomputable def valQ (q:Request):Bool:=@decide (FitQ q) (Classical.propDecidable _)
theorem xhf {q:Request} (h:FitQ q):valQ q=true:=by unfold valQ;exact @decide_eq_true _ (Classical.propDecidable _) h
theorem xfz {q:Request} (h:¬FitQ q):valQ q=false:=by unfold valQ;exact @decide_eq_false _ (Classical.propDecidable _) h
theorem yb3 {q:Request} (h:valQ q=true):FitQ q:=by
 unfold valQ at h;exact @of_decide_eq_true _ (Classical.propDecidable _) h
theorem xds (q:Request):Fnc Tryz.prog 111 [reqV q] (fun x obs=>x=.bool (valQ q)∧obs=[]):=by
 refine zcf Tryz.prog 111 fun mz=>?_;have fa:=xic q.args 3;have fd:=xic q.data 16;by_cases thread0:0≤q.thread;rotate_left
 ·rw [xfz (fun F=>thread0 F.thread.1)]
  refine zgo mz fun W S=>?_;exact zrt mz
 by_cases thread1:q.thread≤3;rotate_left
 ·rw [xfz (fun F=>thread1 F.thread.2)]
  refine zgo mz fun W S=>?_;exact zrt mz
 by_cases stop0:0≤q.stop;rotate_left
 ·rw [xfz (fun F=>stop0 F.stop.1)]
  refine zgo mz fun W S=>?_;exact zrt mz
 by_cases stop1:q.stop≤3;rotate_left
 ·rw [xfz (fun F=>stop1 F.stop.2)]
  refine zgo mz fun W S=>?_;exact zrt mz
 by_cases trap0:0≤q.trap;rotate_left
 ·rw [xfz (fun F=>trap0 F.trap.1)]
  refine zgo mz fun W S=>?_;exact zrt mz
 by_cases trap1:q.trap≤6;rotate_left
 ·rw [xfz (fun F=>trap1 F.trap.2)]
  refine zgo mz fun W S=>?_;exact zrt mz
 by_cases count0:0≤q.count;rotate_left
 ·rw [xfz (fun F=>count0 F.count.1)]
  refine zgo mz fun W S=>?_;exact zrt mz
 by_cases count1:q.count≤1099511627776;rotate_left
 ·rw [xfz (fun F=>count1 F.count.2)]
  refine zgo mz fun W S=>?_;exact zrt mz
 by_cases pc0:0≤q.pc;rotate_left
 ·rw [xfz (fun F=>pc0 F.pc.1)]
  refine zgo mz fun W S=>?_;exact zrt mz
 by_cases pc1:q.pc≤255;rotate_left
 ·rw [xfz (fun F=>pc1 F.pc.2)]
  refine zgo mz fun W S=>?_;exact zrt mz
 by_cases call0:0≤q.call;rotate_left
 ·rw [xfz (fun F=>call0 F.call.1)]
  refine zgo mz fun W S=>?_;exact zrt mz
 by_cases call1:q.call≤15;rotate_left
 ·rw [xfz (fun F=>call1 F.call.2)]
  refine zgo mz fun W S=>?_;exact zrt mz
 cases ea:xba q.args 3 with
 |false=>
  rw [ea] at fa;rw [xfz (fun F=>by rw [F.args] at ea;cases ea)];refine zgo mz fun W S=>?_;refine zcd (fa) ?_;exact zrt mz
 |true=>
  rw [ea] at fa;cases ed:xba q.data 16 with
  |false=>
   rw [ed] at fd;rw [xfz (fun F=>by rw [F.data] at ed;cases ed)];refine zgo mz fun W S=>?_;refine zcd (fa) ?_;refine zcd (fd) ?_;exact zrt mz
  |true=>
   rw [ed] at fd;rw [xhf ⟨⟨thread0,thread1⟩,⟨stop0,stop1⟩,⟨trap0,trap1⟩,⟨count0,count1⟩,⟨pc0,pc1⟩,⟨call0,call1⟩,ea,ed⟩];refine zgo mz fun W S=>?_;refine zcd (fa) ?_;refine zcd (fd) ?_;exact zrt mz
end Go.Proofs.YtbgpfigkcpmnfaaGreat
namespace Go.Proofs.YtbgpfigkcpmnfaaGreat
open Go Go.RowKit Rdn Rdn.Dp
def kfit (k t:Int):Bool:=if k=78 then decide (t=0) else if k=72 then decide (t=2) else if k=80 then decide (t=1) else true
def xdl (ks ts:List Int):Nat→Bool
 |0=>true
 |n+1=>xdl ks ts n && kfit ks[n]! ts[n]!
def xja (ks ts:List Int):Bool:=decide (ks.length=ts.length) && xdl ks ts ts.length
def xhh (q:Request):List Int:=q.args.map Canon.tag
noncomputable def xe2 (q:Request):Bool:=valQ q && decide (q.stop=1) && xja (kl q.call) (xhh q)
theorem ygj {k t:Int} (h:k=78) (h2:t=0):kfit k t=true:=by subst h;subst h2;rfl
theorem ygi {k t:Int} (h:k=78) (h2:¬t=0):kfit k t=false:=by subst h;unfold kfit;rw [if_pos rfl,decF h2]
theorem ygh {k t:Int} (h:k=72) (h2:t=2):kfit k t=true:=by subst h;subst h2;rfl
theorem ygg {k t:Int} (h:k=72) (h2:¬t=2):kfit k t=false:=by subst h;unfold kfit;rw [if_neg (by decide),if_pos rfl,decF h2]
theorem ygl {k t:Int} (h:k=80) (h2:t=1):kfit k t=true:=by subst h;subst h2;rfl
theorem ygk {k t:Int} (h:k=80) (h2:¬t=1):kfit k t=false:=by subst h;unfold kfit;rw [if_neg (by decide),if_neg (by decide),if_pos rfl,decF h2]
theorem yk1 {k t:Int} (h1:¬k=78) (h2:¬k=72) (h3:¬k=80):kfit k t=true:=by unfold kfit;rw [if_neg h1,if_neg h2,if_neg h3]
theorem xy8 {ks ts:List Int} {n:Nat} (h:xdl ks ts n=true) (h2:kfit ks[n]! ts[n]! =true):xdl ks ts (n+1)=true:=by show(xdl ks ts n && kfit ks[n]! ts[n]!)=true;rw [h,h2];rfl
theorem xy7 {ks ts:List Int} {n:Nat} (h2:kfit ks[n]! ts[n]! =false):xdl ks ts (n+1)=false:=by show(xdl ks ts n && kfit ks[n]! ts[n]!)=false;rw [h2,Bool.and_false]
theorem yg7 {ks ts:List Int} {n:Nat} (h:xdl ks ts n=false):xdl ks ts (n+1)=false:=by show(xdl ks ts n && kfit ks[n]! ts[n]!)=false;rw [h,Bool.false_and]
theorem xu5 {ks ts:List Int} {n m:Nat} (h:xdl ks ts n=false) (hm:n≤m):xdl ks ts m=false:=by
 induction m with
 |zero=>
  obtain rfl:n=0:=by omega
  exact h
 |succ m ih=>
  by_cases e:n=m+1
  ·subst e;exact h
  ·exact yg7 (ih (by omega))
theorem ygf (c:Int):(kb c).size=(kl c).length∧∀k,k<(kl c).length→((kb c)[k]?.getD 0).toNat=(kl c)[k]!:=by
 by_cases h:0≤c∧c≤15
 ·rcases xi0 h.1 h.2 with rfl|rfl|rfl|rfl|rfl|rfl|rfl|rfl|rfl|rfl|rfl|rfl|rfl|rfl|rfl|rfl<;>exact⟨by decide,by decide⟩
 ·have a:kb c=ByteArray.empty:=by
   unfold kb;rw [if_neg (by omega),if_neg (by omega),if_neg (by omega),if_neg (by omega),if_neg (by omega),if_neg (by omega),if_neg (by omega)]
  have b:kl c=[]:=by
   unfold kl;rw [if_neg (by omega),if_neg (by omega),if_neg (by omega),if_neg (by omega),if_neg (by omega),if_neg (by omega),if_neg (by omega)]
  rw [a,b];exact⟨rfl,fun k hk=>absurd hk (Nat.not_lt_zero k)⟩
theorem xfr (c:Int):(kl c).length≤3:=by
 unfold kl
 repeat' split
 all_goals decide
attribute [local irreducible] kb kl kfit xdl
end Go.Proofs.YtbgpfigkcpmnfaaGreat
namespace Go.Proofs.YtbgpfigkcpmnfaaGreat
open Go Go.RowKit Rdn Rdn.Dp
theorem xzx (k t:Int):Fnc Tryz.prog 103 [.int .u8 k,.int .u8 t] (fun x obs=>x=.bool (kfit k t)∧obs=[]):=by
 refine zcf Tryz.prog 103 fun mz=>?_;by_cases c1:k=78
 ·by_cases d:t=0
  ·rw [ygj c1 d]
   refine zgo mz fun W S=>?_;exact zrt mz
  ·rw [ygi c1 d]
   refine zgo mz fun W S=>?_;exact zrt mz
 by_cases c2:k=72
 ·by_cases d:t=2
  ·rw [ygh c2 d]
   refine zgo mz fun W S=>?_;exact zrt mz
  ·rw [ygg c2 d]
   refine zgo mz fun W S=>?_;exact zrt mz
 by_cases c3:k=80
 ·by_cases d:t=1
  ·rw [ygl c3 d]
   refine zgo mz fun W S=>?_;exact zrt mz
  ·rw [ygk c3 d]
   refine zgo mz fun W S=>?_;exact zrt mz
 ·rw [yk1 c1 c2 c3]
  refine zgo mz fun W S=>?_;exact zrt mz
theorem ydw {q:Request} {k:Nat} (h:k<q.args.length):(xhh q)[k]! =q.args[k]!.tag:=by
 unfold xhh;rw [getElem!_pos _ k (by rw [List.length_map];exact h),getElem!_pos _ k h,List.getElem_map]
theorem xrp (q:Request):(xhh q).length=q.args.length:=List.length_map ..
attribute [local irreducible] kb kl kfit xdl xja valQ xhh
theorem xd9 (q:Request) (ha:q.args.length≤1000):Fnc Tryz.prog 124 [reqV q] (fun x obs=>x=.bool (xja (kl q.call) (xhh q))∧obs=[]):=by
 refine zcf Tryz.prog 124 fun mz=>?_;have f:=xt9 q.call;obtain⟨hs,hk⟩:=ygf q.call;have h3:=xfr q.call;have ht:=xrp q;have hi:inK .i64 ((kl q.call).length:Int):=xot (by omega) (by omega);by_cases e:(kl q.call).length=q.args.length
 ·have hr:xja (kl q.call) (xhh q)=xdl (kl q.call) (xhh q) q.args.length:=by unfold xja;rw [decT (by omega),Bool.true_and,ht]
  rw [hr];have hz:xdl (kl q.call) (xhh q) 0=true:=by unfold xdl;rfl
  refine zgo mz fun W S=>?_
  (first|refine xaj (f) ?_|refine xaa (f) ?_);refine zev ?_
  refine zsx (And.intro hi (hs)) ?_;refine zlk [3,16,17] (fun p:{p:Nat // p≤q.args.length∧xdl (kl q.call) (xhh q) p=true}=>[(18,.int .i64 p.1)]) (fun _=>[⟨.box false 96,true,0,reqV q⟩]) (fun p=>q.args.length-p.1) (⟨0,by simp,hz⟩) 1 ?_;intro J hJ
  rintro⟨k,hk0,hk1⟩
  by_cases hlt:k<q.args.length
  ·have hkk:=hk k (by omega)
   have fk:=xzx (kl q.call)[k]! q.args[k]!.tag;have hta:=ydw hlt;by_cases g:kfit (kl q.call)[k]! q.args[k]!.tag=true
   ·have hS:xdl (kl q.call) (xhh q) (k+1)=true:=xy8 hk1 (by rw [hta];exact g)
    rw [g] at fk;refine zsx (And.intro hkk (hs)) ?_;refine zcd (fk) ?_;exact zn1 (hJ _ (⟨k+1,hlt,hS⟩) (by first|omega|(dsimp only;omega)|(simp;omega))) hlt
   ·rw [Bool.not_eq_true] at g
    rw [g] at fk;rw [xu5 (xy7 (n:=k) (by rw [hta];exact g)) hlt];refine zsx (And.intro hkk (hs)) ?_;refine zcd (fk) ?_;exact zrt mz
  ·obtain rfl:k=q.args.length:=by omega
   refine zst ?_;refine ret mz [] ?_;(first|(simp only [go_sem];done)|(simp only [go_sem];((try dsimp only);(repeat' (refine And.intro ?_ ?_))<;>first|with_reducible rfl|(simp only [go_sem];done)|(simp only [go_sem];rfl)|(simp only [go_sem,hk1];done)|(simp only [hk1];(try simp only [go_sem]);first|done|rfl)|(simp only [go_sem];simp [hk1];done)|(simp [hk1];done)|rfl)))
 ·have hr:xja (kl q.call) (xhh q)=false:=by unfold xja;rw [decF (by omega),Bool.false_and]
  rw [hr];refine zgo mz fun W S=>?_
  (first|refine xaj (f) ?_|refine xaa (f) ?_);refine zev ?_
  refine zsx (And.intro hi (hs)) ?_;exact zrt mz
end Go.Proofs.YtbgpfigkcpmnfaaGreat
namespace Go.Proofs.YtbgpfigkcpmnfaaGreat
open Go Go.RowKit Rdn Rdn.Dp
abbrev resV (r:Rdn.Result):V:=.agg [xaf r.value,.sl false 4 (r.data.map xaf),.int .i64 r.spawn,.bool r.wait]
def okR (c:Canon) (d:List Canon):Rdn.Result:=⟨c,d,-1,false⟩
def numR (v:Int):Canon:=⟨0,IntKind.u16.wrap v,0,0⟩
def xc7:Rdn.Result:=okR ⟨0,65535,0,0⟩ []
def noR:Rdn.Result:=⟨⟨0,0,0,0⟩,[],0,false⟩
def xcq (l:List Int):List Int×Canon×Bool:=if l.length=0 then(l,⟨0,0,0,0⟩,false) else(l.drop 1,⟨0,l[0]!,0,0⟩,true)
theorem xv5 {l:List Int} (h:l.length=0):xcq l=(l,⟨0,0,0,0⟩,false):=if_pos h
theorem xv4 {l:List Int} (h:¬l.length=0):xcq l=(l.drop 1,⟨0,l[0]!,0,0⟩,true):=if_neg h
attribute [local go_sem] xjy xj7 List.take_length
end Go.Proofs.YtbgpfigkcpmnfaaGreat
namespace Go.Proofs.YtbgpfigkcpmnfaaGreat
open Go Go.RowKit Rdn Rdn.Dp
theorem yet:numR 0=⟨0,0,0,0⟩:=rfl
attribute [local irreducible] xcq
end Go.Proofs.YtbgpfigkcpmnfaaGreat
namespace Go.Proofs.YtbgpfigkcpmnfaaGreat
open Go Go.RowKit Rdn Rdn.Dp
attribute [local irreducible] xcq xvv
end Go.Proofs.YtbgpfigkcpmnfaaGreat
namespace Go.Proofs.YtbgpfigkcpmnfaaGreat
open Go Go.RowKit Rdn Rdn.Dp
theorem ye7 (c:Int) (h0:0≤c) (h1:c≤15):Fnc Tryz.prog 83 [.int .i64 c] (fun x obs=>x=.int .i64 (kl c).length∧obs=[]):=by
 refine zcf Tryz.prog 83 fun mz=>?_;have f:=xt9 c;obtain⟨hs,hk⟩:=ygf c;have h3:=xfr c;have hi:inK .i64 ((kl c).length:Int):=xot (by omega) (by omega);refine zgo mz fun W S=>?_
 (first|refine xaj (f) ?_|refine xaa (f) ?_);refine zev ?_
 refine zsx (And.intro hi (hs)) ?_;exact zrt mz
theorem yk8 (m:PMem) (h:xfi m) (addr:Int) (h0:0≤addr) (h1:addr<512):Fnc Tryz.prog 86 [memV false m,.int .i64 addr] (fun x obs=>x=xau (xrh m addr)∧obs=[]):=by
 refine zcf Tryz.prog 86 fun mz=>?_;obtain⟨k1,k2,k3,k4⟩:=h;have hl:=k4 (addr / 4 % 4).toNat (by omega);unfold xrh;dsimp only;by_cases c:m.lines[(addr / 4 % 4).toNat]!.tag=addr / 4
 ·rw [if_pos c]
  unfold xdj at hl;rw [if_neg (by omega)] at hl;obtain⟨-,-,-,l4,-⟩:=hl;refine zgo mz fun W S=>?_;exact zrt mz
 ·rw [if_neg c]
  refine zgo mz fun W S=>?_;exact zrt mz
theorem yl7 (x:PThr) (h:x.regs.length=8):Fnc Tryz.prog 105 [thrV false x] (fun y obs=>y=thrV true x∧obs=[]):=by
 refine zcf Tryz.prog 105 fun mz=>?_;refine zgo mz fun W S=>?_;exact zrt mz
theorem yb0 (x:PThr) (h:x.regs.length=8) (trap code:Int):Fnc Tryz.prog 82 [thrV false x,.int .i64 trap,.int .u16 code] (fun y obs=>y=thrV true (endS x trap code)∧obs=[]):=by
 refine zcf Tryz.prog 82 fun mz=>?_;have f:=yl7 x h;refine zgo mz fun W S=>?_;refine zcd (f) ?_;exact zrt mz
def rdyS (l:List PThr) (k:Nat):List Int:=((List.range k).filter (fun i=>decide (l[i]!.state=1))).map Int.ofNat
theorem ykw {l:List PThr} {k:Nat} (h:l[k]!.state=1):rdyS l (k+1)=rdyS l k++[(k:Int)]:=by
 unfold rdyS;rw [List.range_succ,List.filter_append,List.map_append]
 congr 1
 simp only [List.filter,decT h,List.map_cons,List.map_nil];rfl
theorem ykv {l:List PThr} {k:Nat} (h:¬l[k]!.state=1):rdyS l (k+1)=rdyS l k:=by
 unfold rdyS;rw [List.range_succ,List.filter_append,List.map_append];simp only [List.filter,decF h,List.map_nil,List.append_nil]
theorem xuz (l:List PThr) (k:Nat):(rdyS l k).length≤k:=by
 unfold rdyS;rw [List.length_map];exact Nat.le_trans (List.length_filter_le _ _) (by simp)
theorem ycx {l:List PThr} {k:Nat} {x:Int} (h:x∈rdyS l k):0≤x∧x<k∧l[x.toNat]!.state=1:=by
 unfold rdyS at h;obtain⟨i,h1,rfl⟩:=List.mem_map.1 h;have h2:=List.mem_filter.1 h1;have h3:=List.mem_range.1 h2.1;have h4:=of_decide_eq_true h2.2;exact⟨Int.natCast_nonneg i,by show(i:Int)<k;omega,h4⟩
theorem ykx (l:List PThr) (h:l.length=4):Fnc Tryz.prog 49 [.sl false 8 (l.map (thrV false))] (fun x obs=>x=.sl true 1 (i64s (rdyS l 4))∧obs=[]):=by
 refine zcf Tryz.prog 49 fun mz=>?_;have hz:rdyS l 0=[]:=rfl;refine zgo mz fun W S=>?_;refine xcy (i:=3) (e:=3) (s:=1) rfl (by decide) ?_;refine xay [6,7] (fun p:{p:Nat // p≤l.length}=>[(3,.own 0 (rdyS l p.1).length),(8,.int .i64 p.1)]) (fun p=>[⟨.row 3,true,(rdyS l p.1).length,.arr 1 (i64s (rdyS l p.1))⟩]) (fun p=>l.length-p.1) (⟨0,by simp⟩) 1 (by simp only [go_sem];rfl) ?_ (by first|rfl|(simp only [go_sem];done)|(simp only [go_sem];simp [hz];done)) (by simp) (by first|rfl|(simp only [go_sem];done)) (by first|rfl|(simp only [go_sem];done)) (by first|rfl|(simp only [go_sem];done)|(simp only [hz];(try simp only [go_sem]);first|done|rfl)) ?_
 ·(simp only [go_sem];(try simp [hz]);done)
 intro J hJ
 rintro⟨k,hk0⟩
 by_cases hlt:k<l.length
 ·have hl:=xuz l k
  by_cases c:l[k]!.state=1
  ·have hs:=ykw c
   have hsl:(rdyS l (k+1)).length=(rdyS l k).length+1:=by rw [hs,List.length_append];rfl
   have hsm:i64s (rdyS l (k+1))=i64s (rdyS l k)++[.int .i64 k]:=by rw [hs];simp [i64s]
   refine zst ?_;exact zn1 (hJ _ (⟨k+1,hlt⟩) (by first|omega|(dsimp only;omega)|(simp;omega))) (And.intro hsl (hsm))
  ·have hs:=ykv c
   refine zst ?_;exact zn1 (hJ _ (⟨k+1,hlt⟩) (by first|omega|(dsimp only;omega)|(simp;omega))) hs
 obtain rfl:k=l.length:=by omega
 rw [show rdyS l 4=rdyS l l.length by rw [h]];refine zst ?_;exact zrt mz
def xf2 (p:PProg) (x:PThr):Int:=p.code[(x.pc-1).toNat]!.imm
def tagR (x:PThr):List Int:=x.regs.map Cell.tag
def chkS (p:PProg) (l:PLay) (x:PThr):Int:=
 if xdl (kl (xf2 p x)) (tagR x) (kl (xf2 p x)).length=false then 6
 else if 0<bufS (xf2 p x)∧((xdx l p.sizes x.regs[1]! x.regs[2]!.val).2≠0∨16<x.regs[2]!.val) then 6
 else if(xf2 p x=10∨xf2 p x=12)∧(p.code.length:Int)≤x.regs[0]!.val then 6
 else 0
theorem xvn (c:Int):0≤bufS c∧bufS c≤2:=by
 unfold bufS
 repeat' split
 all_goals omega
theorem yfm (p:PProg) (m:PMach) {C:Int} (h:okMach p C m) (t:Nat) (ht:t<4) (h1:1≤m.thr[t]!.pc) (h2:m.thr[t]!.pc≤p.code.length) (h3:0≤xf2 p m.thr[t]!∧xf2 p m.thr[t]!≤15):Fnc Tryz.prog 81 [xbn false p,xd8 false m,.int .i64 t] (fun x obs=>x=.int .i64 (chkS p m.lay m.thr[t]!)∧obs=[]):=by
 refine zcf Tryz.prog 81 fun mz=>?_;have hn:=h.n;obtain⟨hr,-,-,rl,-⟩:=xcm h ht;have hcl:=h.prog.c2;have fw:=yld m.lay p.sizes m.thr[t]!.regs[1]! m.thr[t]!.regs[2]!.val h.lay (xb3 hr (by omega));have v2:=(xb3 hr (k:=2) (by omega)).2.2;have v0:=(xb3 hr (k:=0) (by omega)).2.2;have tg:∀k,k<m.thr[t]!.regs.length→(tagR m.thr[t]!)[k]! =m.thr[t]!.regs[k]!.tag:=fun k hk=>by
  unfold tagR;rw [getElem!_pos _ k (by rw [List.length_map];exact hk),getElem!_pos _ k hk,List.getElem_map]
 obtain⟨R,hR⟩:∃R,chkS p m.lay m.thr[t]! =R:=⟨_,rfl⟩;rw [hR];unfold chkS at hR;obtain⟨c,hcs⟩:∃c,p.code[(m.thr[t]!.pc-1).toNat]!.imm=c:=⟨_,rfl⟩;have hc2:xf2 p m.thr[t]! =c:=hcs;rw [hc2] at hR h3;clear hc2;have f:=xt9 c;have fb:=xca c h3.1 h3.2;obtain⟨hs,hk⟩:=ygf c;have hk3:=xfr c;have hbf:=xvn c;have hi:inK .i64 ((kl c).length:Int):=xot (by omega) (by omega);have hz:xdl (kl c) (tagR m.thr[t]!) 0=true:=by unfold xdl;rfl
 refine zgo mz fun W S=>?_;refine zsx hcs ?_
 (first|refine xaj (f) ?_|refine xaa (f) ?_);refine zev ?_
 refine zsx (And.intro hi (hs)) ?_;refine zlk [3,4,7,8,9,29] (fun q:{q:Nat // q≤(kl c).length∧xdl (kl c) (tagR m.thr[t]!) q=true}=>[(30,.int .i64 q.1)]) (fun _=>[⟨.box false 29,true,0,xbn false p⟩,⟨.box false 39,true,0,xd8 false m⟩,⟨.box false 148,true,0,thrV false m.thr[t]!⟩]) (fun q=>(kl c).length-q.1) (⟨0,by simp,hz⟩) 3 ?_;intro J hJ
 rintro⟨k,hk0,hk1⟩
 by_cases hlt:k<(kl c).length
 ·have hkk:=hk k (by omega)
  have fk:=xzx (kl c)[k]! m.thr[t]!.regs[k]!.tag;have hta:=tg k (by omega);by_cases g:kfit (kl c)[k]! m.thr[t]!.regs[k]!.tag=true
  ·have hS:xdl (kl c) (tagR m.thr[t]!) (k+1)=true:=xy8 hk1 (by rw [hta];exact g)
   rw [g] at fk;refine zsx (And.intro hkk (hs)) ?_;refine zcd (fk) ?_;exact zn3 (hJ _ (⟨k+1,hlt,hS⟩) (by first|omega|(dsimp only;omega)|(simp;omega))) hlt
  ·rw [Bool.not_eq_true] at g
   rw [g] at fk;rw [if_pos (xu5 (xy7 (n:=k) (by rw [hta];exact g)) hlt)] at hR;subst hR;refine zsx (And.intro hkk (hs)) ?_;refine zcd (fk) ?_;exact zrt mz
 obtain rfl:k=(kl c).length:=by omega
 rw [if_neg (by rw [hk1];simp)] at hR;have last:(¬(0<bufS c∧((xdx m.lay p.sizes m.thr[t]!.regs[1]! m.thr[t]!.regs[2]!.val).2≠0∨16<m.thr[t]!.regs[2]!.val)))→((c=10∨c=12)∧(p.code.length:Int)≤m.thr[t]!.regs[0]!.val∧R=6)∨(c≠10∧c≠12∧R=0)∨((c=10∨c=12)∧m.thr[t]!.regs[0]!.val<p.code.length∧R=0):=by
  intro hb;rw [if_neg hb] at hR;by_cases d:c=10∨c=12
  ·by_cases e:(p.code.length:Int)≤m.thr[t]!.regs[0]!.val
   ·rw [if_pos ⟨d,e⟩] at hR
    exact .inl ⟨d,e,hR.symm⟩
   ·rw [if_neg (fun q=>e q.2)] at hR
    exact .inr (.inr ⟨d,by omega,hR.symm⟩)
  ·rw [if_neg (fun q=>d q.1)] at hR
   exact .inr (.inl ⟨by omega,by omega,hR.symm⟩)
 by_cases hb:0<bufS c
 ·by_cases w:(xdx m.lay p.sizes m.thr[t]!.regs[1]! m.thr[t]!.regs[2]!.val).2=0
  rotate_left
  ·rw [if_pos ⟨hb,.inl w⟩] at hR
   subst hR;refine zst ?_;refine zcd (fb) ?_;refine zcd (fw) ?_;exact zrt mz
  by_cases w2:16<m.thr[t]!.regs[2]!.val
  ·rw [if_pos ⟨hb,.inr w2⟩] at hR
   subst hR;refine zst ?_;refine zcd (fb) ?_;refine zcd (fw) ?_;exact zrt mz
  have l3:=last (fun q=>q.2.elim (fun r=>r w) w2);rw [w] at fw;have hno:¬(c=10∨c=12):=by
   rintro(rfl|rfl)<;>exact absurd hb (by decide)
  rcases l3 with ⟨e0,-⟩|⟨e1,e2,rfl⟩|⟨e0,-⟩
  ·exact absurd e0 hno
  ·refine zst ?_
   refine zcd (fb) ?_;refine zcd (fw) ?_;exact zrt mz
  ·exact absurd e0 hno
 ·have l3:=last (fun q=>hb q.1)
  rcases l3 with ⟨rfl|rfl,e1,rfl⟩|⟨e1,e2,rfl⟩|⟨rfl|rfl,e1,rfl⟩
  all_goals
   refine zst ?_;refine zcd (fb) ?_;exact zrt mz
end Go.Proofs.YtbgpfigkcpmnfaaGreat
