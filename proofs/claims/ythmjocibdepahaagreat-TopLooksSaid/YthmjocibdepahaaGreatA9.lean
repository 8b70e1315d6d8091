import Derived.Test.YthmjocibdepahaaGreatA7
import Derived.Test.YthmjocibdepahaaGreatA8
import Derived.Test.YthmjocibdepahaaGreatA5
import Derived.Test.YthmjocibdepahaaGreatA6
set_option linter.defProp false
set_option linter.unusedSimpArgs false
set_option linter.unusedVariables false
set_option maxHeartbeats 64000000
set_option maxRecDepth 100000
namespace Go.Proofs.YthmjocibdepahaaGreat
open Go Go.RowKit Rdn Rdn.Dp
def xqr:=aC 133
def xzg:=aC 65
def xqn:=aC 21
def xzj:=aC 6
theorem yem {a n:Int} (hn:0<n) (h:a.tmod n<0):a.tmod n+n=a % n:=by
 rw [Int.tmod_eq_emod] at h⊢;have h1:=Int.emod_nonneg a (show n≠0 by omega);split at h
 ·omega
 ·rename_i hh;rw [if_neg hh];omega
theorem yen {a n:Int} (hn:0<n) (h:¬a.tmod n<0):a.tmod n=a % n:=by
 rw [Int.tmod_eq_emod] at h⊢;have h2:=Int.emod_lt_of_pos a hn;split at h
 ·rename_i hh;rw [if_pos hh];omega
 ·omega
theorem xs5 (a n:Int) (hn:0<n):Fnc Tryz.prog 133 [.int .i64 a,.int .i64 n] (fun x obs=>x=.int .i64 (a % n)∧obs=[]):=by
 refine Fnc.wf fun hw=>?_;simp only [V.wfs,V.wf] at hw;have hb:=xpw hw.2.1;have h1:=Int.emod_nonneg a (show n≠0 by omega);have h2:=Int.emod_lt_of_pos a hn;refine Fnc.intro xqr ξ fun W S=>?_;simp only [ents,Nat.zero_add,Nat.reduceAdd,Qm,Qc,Ql,QL,Qf,Qs,Qb,Qk,QB,Qn,Qe,Qx,Qt,Qu,Q0,Q1,Qp,Qw,Qq,Qr,Qi];by_cases h:a.tmod n<0
 ·have e:=yem hn h
  refine aA ?_;exact aX xqr e
 ·have e:=yen hn h
  refine aA ?_;exact aX xqr e
theorem yp3 (a n:Int) (hn:0<n):Fnc Tryz.prog 65 [.int .i64 a,.int .i64 n] (fun x obs=>x=.int .i64 (a % n)∧obs=[]):=by
 refine Fnc.intro xzg ξ fun W S=>?_;simp only [ents,Nat.zero_add,Nat.reduceAdd,Qm,Qc,Ql,QL,Qf,Qs,Qb,Qk,QB,Qn,Qe,Qx,Qt,Qu,Q0,Q1,Qp,Qw,Qq,Qr,Qi];refine aA ?_;exact qV (xs5 a n hn) xzg
theorem yfp {P:Program} {f:FuncId} {T:TypeId} {d:V} {xs:List V} {R0:V→List Ob→V→Prop} (h:d.wf→V.wfs xs→FncM P f T d xs R0):FncM P f T d xs R0:=fun w S b0 hS cs hcs hd vs hvs=>h hd.wf hvs.wfs w S b0 hS cs hcs hd vs hvs
abbrev gV (l:List Int) (k:Nat):V:=.agg [.sl false 1 (bH l),.int .i64 k]
def aG (l:List Int) (k:Nat) (n:Int):Int:=if k<l.length then l[k]! % n else 0
def aB (l:List Int) (k:Nat):Nat:=if k<l.length then k+1 else k
theorem aH {l:List Int} {k:Nat} (h:k≤l.length):aB l k≤l.length:=by unfold aB;split<;>omega
theorem iT {l:List Int} {k:Nat} {n:Int} (hn:0<n):0≤aG l k n:=by
 unfold aG;split
 ·exact Int.emod_nonneg _ ω
 ·omega
theorem iZ {l:List Int} {k:Nat} {n:Int} (hn:0<n):aG l k n<n:=by
 unfold aG;split
 ·exact Int.emod_lt_of_pos _ hn
 ·omega
theorem fB (l:List Int) (k:Nat) (n:Int) (hk:k≤l.length) (hn:0<n):FncM Tryz.prog 21 87 (gV l k) [.int .i64 n] (fun x obs c=>x=.int .i64 (aG l k n)∧obs=[]∧c=gV l (aB l k)):=by
 refine yfp fun hw hw2=>?_;simp only [V.wfs,V.wf,lW,List.length_map] at hw;have hl:=hw.1.2;refine FncM.intro xqn ξ fun W S b0 hb0=>?_;simp only [ents,Nat.zero_add,Nat.reduceAdd,Qm,Qc,Ql,QL,Qf,Qs,Qb,Qk,QB,Qn,Qe,Qx,Qt,Qu,Q0,Q1,Qp,Qw,Qq,Qr,Qi];by_cases h:k<l.length
 ·refine aA ?_
  refine aF (yp3 (l[((k:Int)+1-1).toNat]!) n hn) ?_;refine dE hb0 xqn ?_;exact⟨by simp [aG,h],rfl,by simp [aB,h]⟩
 ·refine aA ?_
  refine dE hb0 xqn ?_;exact⟨by simp [aG,h],rfl,by simp [aB,h]⟩
theorem ypd (l:List Int):Fnc Tryz.prog 6 [.sl false 1 (bH l)] (fun x obs=>x=.ptr 0 0 [] 0∧obs=[⟨.box false 87,true,0,gV l 0⟩]):=by
 refine aI xzj fun W S=>?_;apply yvk xzj
 ·(simp only [go_sem];rfl)
 ·(first|exact trivial|(simp;done))
 ·rfl
 ·(first|rfl|(simp only [go_sem];done))
 exact⟨rfl,rfl⟩
end Go.Proofs.YthmjocibdepahaaGreat
namespace Go.Proofs.YthmjocibdepahaaGreat
open Go Go.RowKit Rdn Rdn.Dp
def xgy:=aC 70
def wF (l:List Int) (k:Nat):Int:=
 if aG l k 5=0∨aG l k 5=1∨aG l k 5=2 then aG l (aB l k) 8 else if aG l k 5=3 then 65535-aG l (aB l k) 3 else aG l (aB l k) 65536
theorem xet (l:List Int) (k:Nat):0≤wF l k∧wF l k≤65535:=by
 have h1:=iT (l:=l) (k:=aB l k) (n:=8) ω;have h2:=iZ (l:=l) (k:=aB l k) (n:=8) ω;have h3:=iT (l:=l) (k:=aB l k) (n:=3) ω;have h4:=iZ (l:=l) (k:=aB l k) (n:=3) ω;have h5:=iT (l:=l) (k:=aB l k) (n:=65536) ω;have h6:=iZ (l:=l) (k:=aB l k) (n:=65536) ω;unfold wF;split
 ·omega
 ·split<;>omega
theorem xnt (l:List Int) (k:Nat) (hk:k≤l.length):FncM Tryz.prog 70 87 (gV l k) [] (fun x obs c=>x=.int .u16 (wF l k)∧obs=[]∧c=gV l (aB l (aB l k))):=by
 have hk1:=aH hk;have h1:=iT (l:=l) (k:=aB l k) (n:=8) ω;have h2:=iZ (l:=l) (k:=aB l k) (n:=8) ω;have h3:=iT (l:=l) (k:=aB l k) (n:=3) ω;have h4:=iZ (l:=l) (k:=aB l k) (n:=3) ω;have h5:=iT (l:=l) (k:=aB l k) (n:=65536) ω;have h6:=iZ (l:=l) (k:=aB l k) (n:=65536) ω;refine FncM.intro xgy ξ fun W S b0 hb0=>?_;simp only [ents,Nat.zero_add,Nat.reduceAdd,Qm,Qc,Ql,QL,Qf,Qs,Qb,Qk,QB,Qn,Qe,Qx,Qt,Qu,Q0,Q1,Qp,Qw,Qq,Qr,Qi];by_cases c0:aG l k 5=0
 ·refine aA ?_
  refine aO (fB l k 5 hk ω) ?_;refine aO (fB l (aB l k) 8 hk1 ω) ?_;refine dE hb0 xgy ?_;exact⟨by simp [wF,c0],rfl,rfl⟩
 by_cases c1:aG l k 5=1
 ·refine aA ?_
  refine aO (fB l k 5 hk ω) ?_;refine aO (fB l (aB l k) 8 hk1 ω) ?_;refine dE hb0 xgy ?_;exact⟨by simp [wF,c1],rfl,rfl⟩
 by_cases c2:aG l k 5=2
 ·refine aA ?_
  refine aO (fB l k 5 hk ω) ?_;refine aO (fB l (aB l k) 8 hk1 ω) ?_;refine dE hb0 xgy ?_;exact⟨by simp [wF,c2],rfl,rfl⟩
 by_cases c3:aG l k 5=3
 ·refine aA ?_
  refine aO (fB l k 5 hk ω) ?_;refine aO (fB l (aB l k) 3 hk1 ω) ?_;refine dE hb0 xgy ?_;exact⟨by simp [wF,c3],rfl,rfl⟩
 ·refine aA ?_
  refine aO (fB l k 5 hk ω) ?_;refine aO (fB l (aB l k) 65536 hk1 ω) ?_;refine dE hb0 xgy ?_;exact⟨by simp [wF,c0,c1,c2,c3],rfl,rfl⟩
end Go.Proofs.YthmjocibdepahaaGreat
namespace Go.Proofs.YthmjocibdepahaaGreat
open Go Go.RowKit Rdn Rdn.Dp
def yai:=aC 120
def dw1 (l:List Int) (k:Nat):Int×Nat:=(wF l k,aB l (aB l k))
theorem xvy {l:List Int} (k:Nat) (h:k≤l.length):(dw1 l k).2≤l.length:=aH (aH h)
def bJ (l:List Int) (k:Nat) (n:Int):List Int×Nat:=tX (dw1 l) (aB l k) (aG l k (n+1)).toNat
theorem zU {l:List Int} {k:Nat} (hk:k≤l.length) (n:Int):(bJ l k n).2≤l.length:=xp0 (f:=dw1 l) xvy (aH hk) _
theorem yI {l:List Int} {k:Nat} {n:Int} (hn:0≤n):(bJ l k n).1.length≤n.toNat:=by
 have h2:=iZ (l:=l) (k:=k) (n:=n+1) ω;rw [bJ,xp1];omega
theorem xvz (l:List Int) (k:Nat) (n:Int):∀x∈(bJ l k n).1,0≤x∧x≤65535:=xvv (p:=fun x=>0≤x∧x≤65535) (fun k=>xet l k) _ _
theorem xfx (l:List Int) (k:Nat) (n:Int) (hk:k≤l.length) (hn:0≤n) (hn':n≤1000000):FncM Tryz.prog 120 87 (gV l k) [.int .i64 n] (fun x obs c=>x=.sl false 1 (xjx (bJ l k n).1)∧obs=[]∧c=gV l (bJ l k n).2):=by
 refine FncM.low ?_;have h1:=iT (l:=l) (k:=k) (n:=n+1) ω;have h2:=iZ (l:=l) (k:=k) (n:=n+1) ω;refine qX yai fun W S b0 hb0=>?_;refine aO (fB l k (n+1) hk ω) ?_;refine pW (i:=5) (e:=31) (s:=1) rfl δ ?_;refine gY [0] (fun p:{p:Nat // p≤(aG l k (n+1)).toNat}=>[(5,.own 1 p.1),(6,.int .i64 (aG l k (n+1)-p.1))]) (fun p=>[⟨.box true 87,true,0,gV l (tX (dw1 l) (aB l k) p.1).2⟩,⟨.row 31,true,p.1,.arr 1 (xjx (tX (dw1 l) (aB l k) p.1).1)⟩]) (fun p=>(aG l k (n+1)).toNat-p.1) (⟨0,by simp⟩) 2 τ ?_ (by first|rfl|(simp only [go_sem];done)|(simp only [go_sem];simp [tX];done)) ξ φ φ (by first|rfl|(simp only [go_sem];done)|(simp only [tX];(try simp only [go_sem]);first|done|rfl)) ?_
 ·(simp only [go_sem];(try simp [tX]);done)
 intro J hJ
 rintro⟨i,hi⟩
 have hp:=xp0 (f:=dw1 l) (m:=l.length) xvy (aH hk) i;have hlen:=xp1 (dw1 l) (aB l k) i;by_cases hlt:i<(aG l k (n+1)).toNat
 ·skip
  generalize hq:tX (dw1 l) (aB l k) i=q at hp hlen;have hd:tX (dw1 l) (aB l k) (i+1)=(q.1++[wF l q.2],aB l (aB l q.2)):=by rw [tX,hq];rfl
  refine aA ?_;refine aO (xnt l q.2 hp) ?_;exact vW (hJ _ (⟨i+1,hlt⟩) ψ) hd
 ·obtain rfl:i=(aG l k (n+1)).toNat:=ω
  refine aA ?_;refine dE hb0 yai ?_
  ((try dsimp only);(repeat' (refine And.intro ?_ ?_))<;>first|with_reducible rfl|(simp only [go_sem];done)|(simp only [go_sem];rfl)|(simp only [go_sem,bJ];done)|(simp only [bJ];(try simp only [go_sem]);first|done|rfl)|(simp only [go_sem];simp [bJ];done)|(simp [bJ];done)|rfl)
end Go.Proofs.YthmjocibdepahaaGreat
namespace Go.Proofs.YthmjocibdepahaaGreat
open Go Go.RowKit Rdn Rdn.Dp
def ynp:=aC 187
def xit:=aC 144
def xyz:=zcs 169
def xgr:=aC 171
def mF (l:List Int):List Canon:=l.map fun v=>⟨0,v,0,0⟩
theorem xf7 (l:List Int):(mF l).length=l.length:=by simp [mF]
theorem ypn {l:List Int} {k:Nat} (h:k<l.length):(mF l)[k]! =⟨0,l[k]!,0,0⟩:=by simp [mF,h]
theorem xcz:mF []=[]:=rfl
theorem xra {l:List Int} {k:Nat} (h:k<l.length):mF (l.take k)++[⟨0,l[k]!,0,0⟩]=mF (l.take (k+1)):=by rw [jG h];simp [mF]
theorem yh7 (v:Int):Fnc Tryz.prog 187 [aS ⟨0,v,0,0⟩] (fun x obs=>x=.bool true∧obs=[]):=by
 exact aZ ynp
theorem xhy (l:List Int) (n:Int) (hb:l.length≤140737488355328) (hn:(l.length:Int)≤n):Fnc Tryz.prog 144 [.sl false 4 ((mF l).map aS),.int .i64 n] (fun x obs=>x=.bool true∧obs=[]):=by
 have hl:=xf7 l;refine aI xit fun W S=>?_;refine bI [0,1,7,8] (fun p:{p:Nat // p≤l.length}=>[(9,.int .i64 p.1)]) (fun _=>[]) (fun p=>l.length-p.1) (⟨0,by simp⟩) 0 ?_;intro J hJ
 rintro⟨k,hk0⟩
 by_cases hlt:k<l.length
 ·have ha:=ypn hlt
  refine aY ha ?_;refine aF (yh7 l[k]!) ?_;exact nP (hJ _ (⟨k+1,hlt⟩) ψ) hlt
 ·obtain rfl:k=l.length:=ω
  refine aA ?_;exact aU xit
abbrev pM:V:=.agg [.int .i64 (-1),.int .i64 0,.bool false]
abbrev csV (w:List Int):V:=.sl false 4 ((mF w).map aS)
abbrev fsV (w0 w1:List Int):V:=.agg [.sl false 1 [csV w0,csV w1],.sl false 3 [pM,pM,pM,pM,pM,pM,pM,pM]]
attribute [local irreducible] mF
theorem xwt (w0 w1:List Int) (h0:w0.length≤64) (h1:w1.length≤64):Fnc Tryz.prog 169 [fsV w0 w1] (fun x obs=>x=.bool true∧obs=[]):=by
 refine aI xyz fun W S=>?_;refine fU 3 ?_;refine aA ?_;refine jC (xhy w0 64 ω ω) (xhy w1 64 ω ω) ?_;refine fU 9 ?_;refine aA ?_;exact aU xyz
abbrev mV (w:List Int):V:=.sl false 1 (xjx w)
theorem yi4 (w0 w1:List Int) (h0:w0.length≤64) (h1:w1.length≤64):Fnc Tryz.prog 171 [.sl false 1 [mV w0,mV w1]] (fun x obs=>x=.sl false 1 [mV w0,mV w1]∧obs=[]):=by
 refine Fnc.low ?_;refine aI xgr fun W S=>?_;refine fU 3 ?_;refine aA ?_;refine ret xgr [] ?_;(first|(simp only [go_sem];done)|(simp only [go_sem];((try dsimp only);(repeat' (refine And.intro ?_ ?_))<;>first|with_reducible rfl|(simp only [go_sem];done)|(simp only [go_sem];rfl)|(simp only [go_sem,mV];done)|(simp only [mV];(try simp only [go_sem]);first|done|rfl)|(simp only [go_sem];simp [mV];done)|(simp [mV];done)|rfl)))
end Go.Proofs.YthmjocibdepahaaGreat
namespace Go.Proofs.YthmjocibdepahaaGreat
open Go Go.RowKit Rdn Rdn.Dp
def xzk:=aC 170
theorem yt5:Fnc Tryz.prog 170 [.sl false 3 []] (fun x obs=>x=.bool true∧obs=[]):=by
 refine aI xzk fun W S=>?_;refine fU 1 ?_;refine aA ?_;exact aU xzk
end Go.Proofs.YthmjocibdepahaaGreat
namespace Go.Proofs.YthmjocibdepahaaGreat
open Go Go.RowKit Rdn Rdn.Dp
def xyy:=aC 174
def xzm:=aC 126
theorem ylm (w0 w1:List Int) (h0:w0.length≤64) (h1:w1.length≤64):Fnc Tryz.prog 174 [.sl false 1 [mV w0,mV w1]] (fun x obs=>x=.tup [fsV w0 w1,.int .i64 0]∧obs=[]):=by
 refine Fnc.low ?_;refine aI xyy fun W S=>?_;refine fU 9 ?_;refine aA ?_;refine fU 3 ?_;refine aA ?_;refine pW (i:=8) (e:=104) (s:=4) rfl δ ?_;refine gY [2,4,25,26,27,31,32] (fun p:{p:Nat // p≤w0.length}=>[(8,.own 3 p.1),(33,.int .i64 p.1)]) (fun p=>[⟨.box false 91,true,0,.agg [.nilS,.nilS]⟩,⟨.row 295,true,0,.arr 3 [pM,pM,pM,pM,pM,pM,pM,pM]⟩,⟨.box false 91,true,0,.agg [.nilS,.own 1 0]⟩,⟨.row 104,true,p.1,.arr 4 ((mF (w0.take p.1)).map aS)⟩]) (fun p=>w0.length-p.1) (⟨0,by simp⟩) 4 τ ?_ (by first|rfl|(simp only [go_sem];done)|(simp only [go_sem];simp [xcz];done)) ξ φ φ (by first|rfl|(simp only [go_sem];done)|(simp only [xcz];(try simp only [go_sem]);first|done|rfl)) ?_
 ·(simp only [go_sem];(try simp [xcz]);done)
 intro J hJ
 rintro⟨k,hk0⟩
 by_cases hlt:k<w0.length
 ·have hl:=xf7 (w0.take k)
  have hl2:(w0.take k).length=k:=by rw [List.length_take];omega
  have hs:=xra hlt;refine aA ?_;exact zn4 (hJ _ (⟨k+1,hlt⟩) ψ) hs
 obtain rfl:k=w0.length:=ω;refine aA ?_;refine pW (i:=8) (e:=104) (s:=4) rfl δ ?_;refine gY [2,4,25,26,27,31,32] (fun p:{p:Nat // p≤w1.length}=>[(8,.own 6 p.1),(33,.int .i64 p.1)]) (fun p=>[⟨.box false 91,true,0,.agg [.nilS,.nilS]⟩,⟨.row 295,true,0,.arr 3 [pM,pM,pM,pM,pM,pM,pM,pM]⟩,⟨.box false 91,true,0,.agg [.own 5 0,.own 1 0]⟩,⟨.row 104,false,w0.length,.arr 4 ((mF w0).map aS)⟩,⟨.row 66,true,0,.arr 1 [.sl true 4 ((mF w0).map aS)]⟩,⟨.row 66,true,0,.arr 1 [.sl true 4 ((mF w0).map aS)]⟩,⟨.row 104,true,p.1,.arr 4 ((mF (w1.take p.1)).map aS)⟩]) (fun p=>w1.length-p.1) (⟨0,by simp⟩) 7 τ ?_ (by first|rfl|(simp only [go_sem];done)|(simp only [go_sem];simp [xcz];done)) ξ φ φ (by first|rfl|(simp only [go_sem];done)|(simp only [xcz];(try simp only [go_sem]);first|done|rfl)) ?_
 ·(simp only [go_sem];(try simp [xcz]);done)
 intro J hJ
 rintro⟨k,hk0⟩
 by_cases hlt:k<w1.length
 ·have hl:=xf7 (w1.take k)
  have hl2:(w1.take k).length=k:=by rw [List.length_take];omega
  have hs:=xra hlt;refine aA ?_;exact zn7 (hJ _ (⟨k+1,hlt⟩) ψ) hs
 obtain rfl:k=w1.length:=ω;refine aA ?_;exact qV (xwt w0 w1 h0 h1) xyy
theorem yqt (c r i0 i1 w0 w1:List Int) (hc:c.length≤64) (hr:r.length≤64) (hi0:i0.length≤64) (hi1:i1.length≤64) (h0:w0.length≤64) (h1:w1.length≤64):Fnc Tryz.prog 126 [.agg [mV c,mV r,.sl false 1 [mV i0,mV i1],fsV w0 w1,.nilS]] (fun x obs=>x=.bool true∧obs=[]):=by
 have fo:=yt5;refine aI xzm fun W S=>?_;refine fU 3 ?_;refine aA ?_;refine fU 1 ?_;refine aA ?_;exact zK2 (xwt w0 w1 h0 h1) fo xzm
end Go.Proofs.YthmjocibdepahaaGreat
namespace Go.Proofs.YthmjocibdepahaaGreat
open Go Go.RowKit Rdn Rdn.Dp
def ynz:=aC 131
def xzl:=aC 62
theorem ypu (c r i0 i1 w0 w1:List Int) (hc:c.length≤64) (hr:r.length≤64) (hi0:i0.length≤64) (hi1:i1.length≤64) (h0:w0.length≤64) (h1:w1.length≤64):Fnc Tryz.prog 131 [.sl false 1 [mV w0,mV w1],.sl false 1 [mV i0,mV i1],mV c,mV r] (fun x obs=>x=.tup [.agg [mV c,mV r,.sl false 1 [mV i0,mV i1],fsV w0 w1,.nilS],.int .i64 0]∧obs=[]):=by
 refine Fnc.low ?_;exact zG3 ynz (ylm w0 w1 h0 h1) (yi4 i0 i1 hi0 hi1) (yqt c r i0 i1 w0 w1 hc hr hi0 hi1 h0 h1)
theorem yqr (l:List Int) (k:Nat) (hk:k≤l.length):FncM Tryz.prog 62 87 (gV l k) [] (fun x obs d=>x=.agg [mV (bJ l (bJ l (bJ l (bJ l (bJ l k 5).2 3).2 8).2 4).2 5).1,mV (bJ l (bJ l (bJ l (bJ l (bJ l (bJ l k 5).2 3).2 8).2 4).2 5).2 5).1,.sl false 1 [mV (bJ l (bJ l (bJ l k 5).2 3).2 8).1,mV (bJ l (bJ l (bJ l (bJ l k 5).2 3).2 8).2 4).1],fsV (bJ l k 5).1 (bJ l (bJ l k 5).2 3).1,.nilS]∧obs=[]∧d=gV l (bJ l (bJ l (bJ l (bJ l (bJ l (bJ l k 5).2 3).2 8).2 4).2 5).2 5).2):=by
 refine FncM.low ?_;have k1:=zU hk 5;have n1:=yI (l:=l) (k:=k) (n:=5) ω;have f1:=xfx l k 5 hk ω ω;generalize bJ l k 5=q1 at k1 n1 f1;have k2:=zU k1 3;have n2:=yI (l:=l) (k:=q1.2) (n:=3) ω;have f2:=xfx l q1.2 3 k1 ω ω;generalize bJ l q1.2 3=q2 at k2 n2 f2;have k3:=zU k2 8;have n3:=yI (l:=l) (k:=q2.2) (n:=8) ω;have f3:=xfx l q2.2 8 k2 ω ω;generalize bJ l q2.2 8=q3 at k3 n3 f3;have k4:=zU k3 4;have n4:=yI (l:=l) (k:=q3.2) (n:=4) ω;have f4:=xfx l q3.2 4 k3 ω ω;generalize bJ l q3.2 4=q4 at k4 n4 f4;have k5:=zU k4 5;have n5:=yI (l:=l) (k:=q4.2) (n:=5) ω;have f5:=xfx l q4.2 5 k4 ω ω;generalize bJ l q4.2 5=q5 at k5 n5 f5;have n6:=yI (l:=l) (k:=q5.2) (n:=5) ω;have f6:=xfx l q5.2 5 k5 ω ω;generalize bJ l q5.2 5=q6 at n6 f6;refine qX xzl fun W S b0 hb0=>?_;refine aO (f1) ?_;refine aO (f2) ?_;refine aO (f3) ?_;refine aO (f4) ?_;refine aO (f5) ?_;refine aO (f6) ?_;refine xi9 ?_;refine bK ?_;refine aF (ypu q5.1 q6.1 q3.1 q4.1 q1.1 q2.1 ω ω ω ω ω ω) ?_;exact zrm hb0 xzl
end Go.Proofs.YthmjocibdepahaaGreat
namespace Go.Proofs.YthmjocibdepahaaGreat
open Go Go.RowKit Rdn Rdn.Dp
def xyw:=aC 4
theorem yl8 (l:List Int):Fnc Tryz.prog 4 [.sl false 1 (bH l)] (fun x obs=>x=.bool (decide (l.length≤400))∧obs=[]):=by
 by_cases h:l.length≤400
 ·skip
  exact aZ xyw
 ·skip
  exact aZ xyw
structure PInstr where
 op:Int
 a:Int
 b:Int
 c:Int
 imm:Int
 deriving DecidableEq,Inhabited
structure PLay where
 bases:List Int
 key:Int
structure PLine where
 tag:Int
 dirty:Bool
 cells:List Cell
 deriving Inhabited
structure PMem where
 cells:List Cell
 lines:List PLine
structure PThr where
 state:Int
 regs:List Cell
 pc:Int
 count:Int
 handler:Int
 saved:Int
 trap:Int
 code:Int
 deriving Inhabited
structure PMach where
 lay:PLay
 mem:PMem
 thr:List PThr
structure PProg where
 code:List PInstr
 sizes:List Int
 data:List (List Int)
structure PEntry where
 kind:Int
 thread:Int
 n:Int
 req:Rdn.Request
 res:Rdn.Result
structure PChoice where
 thread:Int
 branches:Int
 signal:Bool
structure PLocks where
 owner:List Int
 queue:List (List Int)
abbrev nT (i:PInstr):V:=.agg [.int .i64 i.op,.int .i64 i.a,.int .i64 i.b,.int .i64 i.c,.int .i64 i.imm]
abbrev dQ (t:Bool) (l:PLay):V:=.agg [.sl t 1 (bH l.bases),.int .u16 l.key]
abbrev iM (t:Bool) (x:PLine):V:=.agg [.int .i64 x.tag,.bool x.dirty,.sl t 2 (x.cells.map bC)]
abbrev iU (t:Bool) (m:PMem):V:=.agg [.sl t 2 (m.cells.map bC),.sl t 3 (m.lines.map (iM t))]
abbrev dW (t:Bool) (x:PThr):V:=.agg [.int .i64 x.state,.sl t 2 (x.regs.map bC),.int .i64 x.pc,.int .i64 x.count,.int .i64 x.handler,.int .i64 x.saved,.int .i64 x.trap,.int .u16 x.code]
abbrev eG (t:Bool) (m:PMach):V:=.agg [dQ t m.lay,iU t m.mem,.sl t 8 (m.thr.map (dW t))]
abbrev dM (t:Bool) (p:PProg):V:=.agg [.sl t 5 (p.code.map nT),.sl t 1 (bH p.sizes),.sl t 1 (p.data.map (bD t 1 (V.int .u16)))]
abbrev xke (c:PChoice):V:=.agg [.int .i64 c.thread,.int .i64 c.branches,.bool c.signal]
abbrev nU (t:Bool) (l:PLocks):V:=.agg [.sl t 1 (bH l.owner),.sl t 1 (l.queue.map (bD t 1 (V.int .i64)))]
instance :Lo nT nT:=⟨fun _=>rfl,fun _=>rfl⟩
instance :Lo xke xke:=⟨fun _=>rfl,fun _=>rfl⟩
instance (t:Bool):Lo (iM t) (iM false):=⟨fun _=>rfl,fun o=>by simp only [iM,V.low,V.lows,uC]⟩
instance (t:Bool):Lo (dW t) (dW false):=⟨fun _=>rfl,fun o=>by simp only [dW,V.low,V.lows,uC]⟩
def oO (s:List Int):Prop:=(∀n∈s,1≤n∧n≤32)∧1≤s.length∧s.length≤4
def iY:List Int→Int
 |[]=>0
 |n::l=>n+iY l
def nG (s:List Int) (r o:Int):Prop:=0≤r∧r<s.length∧0≤o∧o<s[r.toNat]!
instance (s:List Int) (r o:Int):Decidable (nG s r o):=by unfold nG;exact inferInstance
def vZ:List Int→Int→Int→Option (Int×Int)
 |[],_,_=>none
 |n::l,r,i=>if 0≤i∧i<n then some (r,i) else vZ l (r+1) (i-n)
def jR:List Int→List Int→Int→Int→Option (Int×Int)
 |b::bs,n::ss,r,a=>if b≤a∧a<b+n then some (r,a-b) else jR bs ss (r+1) a
 |_,_,_,_=>none
def jW (l:PLay) (s:List Int):Prop:=oO s∧l.bases.length=s.length∧∀i:Nat,i<s.length→0≤l.bases[i]!∧l.bases[i]!+s[i]!≤512∧∀j:Nat,j<i→l.bases[i]!+s[i]!<l.bases[j]!∨l.bases[j]!+s[j]!<l.bases[i]!
def jD (l:PLay) (s:List Int) (c:Cell):Canon:=
 if c.tag=0 then⟨0,c.val,0,0⟩
 else if c.tag=2 then⟨2,IntKind.u16.wrap (c.val-l.key),0,0⟩
 else match jR l.bases s 0 c.val with
  |some (r,o)=>⟨1,0,r,o⟩
  |none=>⟨1,0,-1,c.val⟩
def mJ (s:List Int) (x:Canon):Prop:=if x.tag=0∨x.tag=2 then x.region=0∧x.offset=0 else x.tag=1∧x.val=0∧nG s x.region x.offset
instance (s:List Int) (x:Canon):Decidable (mJ s x):=by unfold mJ;exact inferInstance
def iD (l:PLay) (s:List Int) (x:Canon):Cell×Int:=
 if ¬mJ s x then(⟨0,0⟩,1)
 else if x.tag=0 then(⟨0,x.val⟩,0)
 else if x.tag=2 then(⟨2,IntKind.u16.wrap (x.val+l.key)⟩,0)
 else(⟨1,IntKind.u16.wrap (l.bases[x.region.toNat]!+x.offset)⟩,0)
def iW (c:Cell):Prop:=0≤c.tag∧c.tag≤2∧0≤c.val∧c.val≤65535
def nX (l:List Cell):Prop:=∀c∈l,iW c
def lF (i:Nat) (x:PLine):Prop:=if x.tag=-1 then x.dirty=false∧x.cells=[] else 0≤x.tag∧x.tag<128∧x.tag % 4=i∧x.cells.length=4∧nX x.cells
def nJ (m:PMem):Prop:=m.cells.length=512∧m.lines.length=4∧nX m.cells∧∀i:Nat,i<4→lF i m.lines[i]!
def setRow (l:List Cell) (k:Nat) (x:List Cell):List Cell:=l.take k++x++l.drop (k+x.length)
def jP (m:PMem) (addr:Int):PMem:=
 let n:=addr / 4
 let i:=(n % 4).toNat
 let x:=m.lines[i]!
 if x.tag=n then m
 else
  let c:=if x.dirty then setRow m.cells (x.tag*4).toNat x.cells else m.cells
  ⟨c,m.lines.set i ⟨n,false,(c.drop (n*4).toNat).take 4⟩⟩
def xbh (m:PMem) (addr:Int):PMem×Cell:=(jP m addr,(jP m addr).lines[(addr / 4 % 4).toNat]!.cells[(addr % 4).toNat]!)
def xcf (m:PMem) (addr:Int) (c:Cell):PMem:=
 let f:=jP m addr
 let i:=(addr / 4 % 4).toNat
 let x:=f.lines[i]!
 ⟨f.cells,f.lines.set i ⟨x.tag,true,x.cells.set (addr % 4).toNat c⟩⟩
def tJ (m:PMem) (addr:Int):Cell:=
 let x:=m.lines[(addr / 4 % 4).toNat]!
 if x.tag=addr / 4 then x.cells[(addr % 4).toNat]! else m.cells[addr.toNat]!
def kC (op:Int):List Bool:=
 if op=1∨op=15∨op=19∨op=20∨op=21 then [true,false,false,true]
 else if op=2 then [true,true,false,false]
 else if op=16∨op=17 then [true,true,false,true]
 else if op=18∨op=23 then [false,false,false,true]
 else if op=22 then [true,false,false,false]
 else if op=0∨op=24 then [false,false,false,false]
 else [true,true,true,false]
def eF (op:Int):Prop:=op=18∨op=19∨op=20∨op=21
def kW (op:Int):Prop:=eF op∨op=22∨op=24
instance (op:Int):Decidable (eF op):=by unfold eF;exact inferInstance
instance (op:Int):Decidable (kW op):=by unfold kW;exact inferInstance
def c0:Cell:=⟨0,0⟩
def qA (back:Bool) (o n:Int):Int:=if back then o-n else o+n
def lD (l:PLay) (s:List Int) (p:Cell) (n:Int) (back:Bool):Cell×Int:=
 if p.tag≠1 then(c0,3)
 else match jR l.bases s 0 p.val with
  |none=>(c0,4)
  |some (r,o)=>if nG s r (qA back o n) then(⟨1,IntKind.u16.wrap (l.bases[r.toNat]!+(qA back o n))⟩,0) else(c0,4)
def vK (b:Bool):Cell:=if b then⟨0,1⟩ else c0
def thr0:PThr:=⟨0,List.replicate 8 c0,0,0,-1,-1,0,0⟩
def lV (pc:Int) (arg:Cell):PThr:=⟨1,arg::List.replicate 7 c0,pc,0,-1,-1,0,0⟩
def xbr (t:PThr) (trap code:Int):PThr:={t with state:=4,trap:=trap,code:=code}
def okThr (C:Int) (t:PThr):Prop:=nX t.regs∧0≤t.state∧t.state≤4∧t.regs.length=8∧0≤t.pc∧t.pc≤255∧0≤t.count∧t.count≤C∧-1≤t.handler∧t.handler≤255∧-1≤t.saved∧t.saved≤255∧0≤t.trap∧t.trap≤6
def xjd (i:PInstr):Prop:=0≤i.op∧i.op≤24∧(0≤i.a∧i.a<8∧((kC i.op)[0]! =false→i.a=0))∧(0≤i.b∧i.b<8∧((kC i.op)[1]! =false→i.b=0))∧(0≤i.c∧i.c<8∧((kC i.op)[2]! =false→i.c=0))∧(0≤i.imm∧i.imm≤65535∧((kC i.op)[3]! =false→i.imm=0))∧(eF i.op→i.imm<64)∧(i.op=15→i.imm<4)∧(i.op=23→i.imm≤15)
structure okProg (p:PProg):Prop where
 sz:oO p.sizes
 dl:p.data.length=p.sizes.length
 dat:∀i:Nat,i<p.sizes.length→(p.data[i]!.length:Int)≤p.sizes[i]!
 c1:1≤p.code.length
 c2:p.code.length≤64
 ins:∀i∈p.code,xjd i∧(eF i.op→i.imm<p.code.length)∧(i.op=15→i.imm<p.sizes.length)
structure okMach (p:PProg) (C:Int) (m:PMach):Prop where
 prog:okProg p
 lay:jW m.lay p.sizes
 mem:nJ m.mem
 n:m.thr.length=4
 thr:∀t∈m.thr,okThr C t
def qP (op b c:Int):Cell×Int:=
 if op=3 then(⟨0,IntKind.u16.wrap (b+c)⟩,0)
 else if op=4 then(⟨0,IntKind.u16.wrap (b-c)⟩,0)
 else if op=5 then(⟨0,IntKind.u16.wrap (b*c)⟩,0)
 else if op=6∨op=7 then(if c=0 then(c0,5) else if op=6 then(⟨0,IntKind.u16.wrap (b.tdiv c)⟩,0) else(⟨0,b.tmod c⟩,0))
 else if op=8 then(⟨0,xhr .u16 b c⟩,0)
 else if op=9 then(⟨0,bor .u16 b c⟩,0)
 else if op=10 then(⟨0,zN .u16 b c⟩,0)
 else if op=11 then(⟨0,IntKind.u16.wrap (b*2 ^ min (c.tmod 16).toNat 16)⟩,0)
 else if op=12 then(⟨0,b.fdiv (2 ^ min (c.tmod 16).toNat 16)⟩,0)
 else(vK (decide (b<c)),0)
def cO (l:PLay) (s:List Int) (op:Int) (b c:Cell):Cell×Int:=
 if op<3∨14<op then(c0,1)
 else if op=14 then(vK (decide (b=c)),0)
 else if b.tag=0∧c.tag=0 then qP op b.val c.val
 else if op=3∧b.tag=1∧c.tag=0 then lD l s b c.val false
 else if op=3∧b.tag=0∧c.tag=1 then lD l s c b.val false
 else if op=4∧b.tag=1∧c.tag=0 then lD l s b c.val true
 else if(op=4∨op=13)∧b.tag=1∧c.tag=1 then
  match jR l.bases s 0 b.val,jR l.bases s 0 c.val with
  |some (r,o),some (r2,o2)=>if r=r2 then(if op=13 then(vK (decide (o<o2)),0) else(⟨0,IntKind.u16.wrap (o-o2)⟩,0)) else(c0,4)
  |_,_=>(c0,4)
 else(c0,3)
def yA (l:PLay) (s:List Int) (p:Cell) (n:Int):Int×Int:=
 if p.tag≠1 then(0,3)
 else match jR l.bases s 0 p.val with
  |none=>(0,4)
  |some (r,o)=>if n<0∨n>s[r.toNat]!-o then(0,4) else(p.val,0)
def qH (x:PThr) (why:Int):PThr:={x with state:=4,trap:=why,code:=0}
def PMach.setT (m:PMach) (t:Nat) (x:PThr):PMach:={m with thr:=m.thr.set t x}
def iQ (x:PThr) (r:Int) (c:Cell):PThr:={x with regs:=x.regs.set r.toNat c}
def jM (i:PInstr) (x:PThr) (next:Int):PThr:={x with pc:=next,count:=if kW i.op then x.count+1 else x.count}
def dL (p:PProg) (m:PMach) (t:Nat):PMach×Int:=
 let x:=m.thr[t]!
 if x.pc≥p.code.length then(m.setT t (qH x 2),2)
 else
  let i:=p.code[x.pc.toNat]!
  let next:=x.pc+1
  let a:=x.regs[i.a.toNat]!
  let b:=x.regs[i.b.toNat]!
  if i.op=0 then(m.setT t (jM i x next),-1)
  else if i.op=1 then(m.setT t (jM i (iQ x i.a ⟨0,IntKind.u16.wrap i.imm⟩) next),-1)
  else if i.op=2 then(m.setT t (jM i (iQ x i.a b) next),-1)
  else if i.op=15 then(m.setT t (jM i (iQ x i.a ⟨1,IntKind.u16.wrap m.lay.bases[i.imm.toNat]!⟩) next),-1)
  else if i.op=16∨i.op=17 then
   let c:=lD m.lay p.sizes (if i.op=17 then a else b) (IntKind.u16.wrap i.imm) false
   if c.2≠0 then(m.setT t (qH x c.2),2)
   else if i.op=16 then({m with mem:=(xbh m.mem c.1.val).1,thr:=m.thr.set t (jM i (iQ x i.a (xbh m.mem c.1.val).2) next)},-1)
   else({m with mem:=xcf m.mem c.1.val b,thr:=m.thr.set t (jM i x next)},-1)
  else if i.op=18 then(m.setT t (jM i x i.imm),-1)
  else if i.op=19∨i.op=20 then
   if a.tag≠0 then(m.setT t (qH x 3),2)
   else(m.setT t (jM i x (if(a.val=0)=(i.op=19) then i.imm else next)),-1)
  else if i.op=21 then(m.setT t (jM i (iQ x i.a ⟨0,IntKind.u16.wrap next⟩) i.imm),-1)
  else if i.op=22 then
   if a.tag≠0 then(m.setT t (qH x 3),2)
   else if a.val>255 then(m.setT t (qH x 2),2)
   else(m.setT t (jM i x a.val),-1)
  else if i.op=24 then
   if x.saved=-1 then(m.setT t (qH x 1),2)
   else(m.setT t (jM i {x with saved:=-1} x.saved),-1)
  else if i.op=23 then(m.setT t {x with state:=2,pc:=next},1)
  else
   let c:=cO m.lay p.sizes i.op b x.regs[i.c.toNat]!
   if c.2≠0 then(m.setT t (qH x c.2),2)
   else(m.setT t (jM i (iQ x i.a c.1) next),-1)
def sJ (p:PProg) (t:Nat) (til:Int):Nat→PMach→PMach×Int
 |0,m=>(m,0)
 |k+1,m=>
  let r:=dL p m t
  if r.2≠-1 then r
  else if r.1.thr[t]!.count=til then(r.1,0)
  else sJ p t til k r.1
theorem mG {l:List Cell} (h:nX l) {k:Nat} (hk:k<l.length):iW l[k]!:=by
 rw [List.getElem!_eq_getElem?_getD,List.getElem?_eq_getElem hk];exact h _ (List.getElem_mem hk)
theorem xmi {l:List Cell} (h:nX l) (k:Nat) {c:Cell} (hc:iW c):nX (l.set k c):=fun x hx=>by
 rcases List.mem_or_eq_of_mem_set hx with h1|rfl
 ·exact h x h1
 ·exact hc
theorem ypw {l x:List Cell} (h:nX l) (hx:nX x) (k:Nat):nX (setRow l k x):=fun c hc=>by
 unfold setRow at hc;rcases List.mem_append.1 hc with h1|h1
 ·rcases List.mem_append.1 h1 with h2|h2
  ·exact h c (List.mem_of_mem_take h2)
  ·exact hx c h2
 ·exact h c (List.mem_of_mem_drop h1)
theorem xjs {l x:List Cell} {k:Nat} (h:k+x.length≤l.length):(setRow l k x).length=l.length:=by
 simp only [setRow,List.length_append,List.length_take,List.length_drop];omega
theorem xxq {m:PMem} (i:Nat) (x:PLine) (hl:m.lines.length=4) (h:∀j:Nat,j<4→j≠i→lF j m.lines[j]!) (hx:lF i x):∀j:Nat,j<4→lF j (m.lines.set i x)[j]!:=fun j hj=>by
 by_cases e:j=i
 ·subst e
  rw [List.getElem!_eq_getElem?_getD,List.getElem?_set_self ω];exact hx
 ·rw [List.getElem!_eq_getElem?_getD,List.getElem?_set_ne (fun h=>e h.symm),←List.getElem!_eq_getElem?_getD]
  exact h j hj e
section
variable {m:PMem} {addr:Int} (ok:nJ m) (h0:0≤addr) (h1:addr<512)
include ok h0 h1
theorem xkw:nJ (jP m addr)∧(jP m addr).lines[(addr / 4 % 4).toNat]!.tag=addr / 4:=by
 obtain⟨c1,c2,c3,c4⟩:=ok;have hi:(addr / 4 % 4).toNat<4:=ω;have hx:=c4 _ hi;unfold jP;dsimp only;split
 ·exact⟨⟨c1,c2,c3,c4⟩,by assumption⟩
 ·rename_i hne
  obtain⟨c,hc⟩:∃c,(if m.lines[(addr / 4 % 4).toNat]!.dirty then setRow m.cells (m.lines[(addr / 4 % 4).toNat]!.tag*4).toNat m.lines[(addr / 4 % 4).toNat]!.cells else m.cells)=c:=⟨_,rfl⟩;have k:c.length=512∧nX c:=by
   rw [←hc];split
   ·rename_i hd
    unfold lF at hx;split at hx
    ·rw [hx.1] at hd;cases hd
    ·obtain⟨x1,x2,x3,x4,x5⟩:=hx
     exact⟨by rw [xjs (by rw [x4,c1];omega)];exact c1,ypw c3 x5 _⟩
   ·exact⟨c1,c3⟩
  rw [hc];refine⟨⟨k.1,by simp [c2],k.2,xxq _ _ c2 (fun j hj _=>c4 j hj) ?_⟩,?_⟩
  ·unfold lF
   rw [if_neg (by show ¬addr / 4=-1;omega)];refine⟨by show 0≤addr / 4;omega,by show addr / 4<128;omega,by show addr / 4 % 4=_;omega,?_,fun x hx=>k.2 x (List.mem_of_mem_drop (List.mem_of_mem_take hx))⟩;simp only [List.length_take,List.length_drop,k.1];omega
  ·rw [List.getElem!_eq_getElem?_getD,List.getElem?_set_self ω]
   rfl
theorem xkv:(jP m addr).lines[(addr / 4 % 4).toNat]!.cells.length=4∧nX (jP m addr).lines[(addr / 4 % 4).toNat]!.cells:=by
 obtain⟨⟨_,_,_,c4⟩,e⟩:=xkw ok h0 h1;have hx:=c4 (addr / 4 % 4).toNat ω;unfold lF at hx;rw [if_neg (by rw [e];omega)] at hx;exact⟨hx.2.2.2.1,hx.2.2.2.2⟩
theorem xxt:nJ (xbh m addr).1∧iW (xbh m addr).2:=by
 obtain⟨l1,l2⟩:=xkv ok h0 h1;exact⟨(xkw ok h0 h1).1,mG l2 (by rw [l1];omega)⟩
theorem xt0 {c:Cell} (hc:iW c):nJ (xcf m addr c):=by
 obtain⟨⟨c1,c2,c3,c4⟩,e⟩:=xkw ok h0 h1;obtain⟨l1,l2⟩:=xkv ok h0 h1;have hx:=c4 (addr / 4 % 4).toNat ω;unfold lF at hx;rw [if_neg (by rw [e];omega)] at hx;unfold xcf;refine⟨c1,by simp [c2],c3,xxq _ _ c2 (fun j hj _=>c4 j hj) ?_⟩;unfold lF;rw [if_neg (by show ¬(jP m addr).lines[(addr / 4 % 4).toNat]!.tag=-1;rw [e];omega)];exact⟨hx.1,hx.2.1,hx.2.2.1,by show(List.set _ _ _).length=4;rw [List.length_set];exact l1,xmi l2 _ hc⟩
end
end Go.Proofs.YthmjocibdepahaaGreat
namespace Go.Proofs.YthmjocibdepahaaGreat
open Go Go.RowKit Rdn Rdn.Dp
theorem xr3 {l:PLay} {s:List Int} (hl:jW l s) {p:Cell} {n:Int} {back:Bool} (h:(lD l s p n back).2=0):(lD l s p n back).1.tag=1∧0≤(lD l s p n back).1.val∧(lD l s p n back).1.val<512:=by
 unfold lD at h⊢;split at h
 ·cases h
 ·rename_i h1
  rw [if_neg h1];split at h
  ·cases h
  ·rename_i r o h2
   split at h
   ·rename_i h3
    rw [if_pos h3];obtain⟨a1,a2,a3,a4⟩:=h3;obtain⟨b1,b2,b3⟩:=hl;have b4:=b3 r.toNat ω;have e:l.bases[r.toNat]!+qA back o n<512:=ω;dsimp only;rw [uD];exact⟨rfl,ω,ω⟩
   ·cases h
theorem wK (k:Int) (hk:0≤k∧k≤2) (v:Int):iW ⟨k,IntKind.u16.wrap v⟩:=⟨hk.1,hk.2,by show 0≤IntKind.u16.wrap v;rw [uD];omega,by show IntKind.u16.wrap v≤65535;rw [uD];omega⟩
theorem xdd:iW c0:=by unfold iW;decide
theorem yw8 (l:PLay) (s:List Int) (p:Cell) (n:Int) (back:Bool):iW (lD l s p n back).1:=by
 unfold lD;split
 ·exact xdd
 ·split
  ·exact xdd
  ·split
   ·exact wK 1 δ _
   ·exact xdd
theorem yei (b:Bool):iW (vK b):=by unfold iW;cases b<;>decide
theorem yw9 (op:Int) {b c:Int} (hb:0≤b∧b≤65535) (hc:0≤c∧c≤65535):iW (qP op b c).1:=by
 have z:(0:Int)≤0∧(0:Int)≤2:=δ;unfold qP
 repeat' split
 ·exact wK 0 z _
 ·exact wK 0 z _
 ·exact wK 0 z _
 ·exact xdd
 ·exact wK 0 z _
 ·refine⟨z.1,z.2,?_,?_⟩
  ·exact Int.tmod_nonneg _ hb.1
  ·have h0:b.tmod c=b % c:=Int.tmod_eq_emod_of_nonneg hb.1
   show b.tmod c≤65535;have:=Int.emod_lt_of_pos b (show 0<c by omega);omega
 ·exact wK 0 z _
 ·exact wK 0 z _
 ·exact wK 0 z _
 ·exact wK 0 z _
 ·generalize (min (c.tmod 16).toNat 16)=q
  have hp:(0:Int)<2 ^ q:=Int.pow_pos δ;have e:b.fdiv (2 ^ q)=b / 2 ^ q:=Int.fdiv_eq_ediv_of_nonneg b ω;refine⟨z.1,z.2,?_,?_⟩
  ·show 0≤b.fdiv (2 ^ q)
   rw [e];exact Int.ediv_nonneg hb.1 ω
  ·show b.fdiv (2 ^ q)≤65535
   rw [e];have:=Int.ediv_le_self (2 ^ q) hb.1;omega
 ·exact yei _
theorem yw7 (l:PLay) (s:List Int) (op:Int) {b c:Cell} (hb:iW b) (hc:iW c):iW (cO l s op b c).1:=by
 unfold cO
 repeat' split
 all_goals first|exact xdd|exact yei _|exact yw9 _ ⟨hb.2.2.1,hb.2.2.2⟩ ⟨hc.2.2.1,hc.2.2.2⟩|exact yw8 _ _ _ _ _|exact wK 0 δ _
theorem mP {p:PProg} {C:Int} {m:PMach} (h:okMach p C m) {t:Nat} (ht:t<4):okThr C m.thr[t]!:=by
 rw [List.getElem!_eq_getElem?_getD,List.getElem?_eq_getElem (by rw [h.n];exact ht)];exact h.thr _ (List.getElem_mem _)
theorem okThr.le {C D:Int} {x:PThr} (h:okThr C x) (hc:C≤D):okThr D x:=by
 obtain⟨h1,h2,h3,h4,h5,h6,h7,h8,h9⟩:=h;exact⟨h1,h2,h3,h4,h5,h6,h7,ω,h9⟩
theorem okMach.set {p:PProg} {C D:Int} {m:PMach} (h:okMach p C m) (hc:C≤D) {me:PMem} (hm:nJ me) (t:Nat) {x:PThr} (hx:okThr D x):okMach p D ⟨m.lay,me,m.thr.set t x⟩:=
 ⟨h.prog,h.lay,hm,by simp [h.n],fun y hy=>by
  rcases List.mem_or_eq_of_mem_set hy with h1|rfl
  ·exact(h.thr y h1).le hc
  ·exact hx⟩
theorem ywt {C:Int} {x:PThr} (h:okThr C x) {why:Int} (h1:0≤why) (h2:why≤6):okThr C (qH x why):=by
 obtain⟨a1,a2,a3,a4,a5,a6,a7,a8,a9,a10,a11,a12,a13,a14⟩:=h;exact⟨a1,by show(0:Int)≤4;decide,by show(4:Int)≤4;decide,a4,a5,a6,a7,a8,a9,a10,a11,a12,h1,h2⟩
theorem xfo {C:Int} {x:PThr} (h:okThr C x) (r:Int) {c:Cell} (hc:iW c):okThr C (iQ x r c):=by
 obtain⟨a1,a2,a3,a4,a5⟩:=h;exact⟨xmi a1 _ hc,a2,a3,by show(List.set _ _ _).length=8;rw [List.length_set];exact a4,a5⟩
theorem xr8 {C:Int} {x:PThr} (h:okThr C x) (i:PInstr) {n:Int} (h1:0≤n) (h2:n≤255):okThr (C+1) (jM i x n):=by
 obtain⟨a1,a2,a3,a4,a5,a6,a7,a8,a9⟩:=h;refine⟨a1,a2,a3,a4,h1,h2,?_,?_,a9⟩
 ·unfold jM;dsimp only;split<;>omega
 ·unfold jM;dsimp only;split<;>omega
theorem xt6 (l:PLay) (s:List Int) (p:Cell) (n:Int) (back:Bool):0≤(lD l s p n back).2∧(lD l s p n back).2≤6:=by
 unfold lD;split
 ·decide
 ·split
  ·decide
  ·split<;>first|decide|exact⟨Int.le_refl 0,by show(0:Int)≤6;decide⟩
theorem yws (op b c:Int):0≤(qP op b c).2∧(qP op b c).2≤6:=by
 unfold qP
 repeat' split
 all_goals first|decide|exact⟨Int.le_refl 0,by show(0:Int)≤6;decide⟩
theorem yeo (l:PLay) (s:List Int) (op:Int) (b c:Cell):0≤(cO l s op b c).2∧(cO l s op b c).2≤6:=by
 unfold cO
 repeat' split
 all_goals first|exact yws _ _ _|exact xt6 _ _ _ _ _|decide|exact⟨Int.le_refl 0,by show(0:Int)≤6;decide⟩
theorem xg4 {p:PProg} (h:okProg p) {k:Nat} (hk:k<p.code.length):xjd p.code[k]!∧(eF p.code[k]!.op→p.code[k]!.imm<p.code.length)∧(p.code[k]!.op=15→p.code[k]!.imm<p.sizes.length):=by
 rw [List.getElem!_eq_getElem?_getD,List.getElem?_eq_getElem hk];exact h.ins _ (List.getElem_mem hk)
theorem aQ {α:Type} {P:α→Prop} {c:Prop} [Decidable c] {a b:α} (h1:c→P a) (h2:¬c→P b):P (if c then a else b):=by
 by_cases h:c
 ·rw [if_pos h];exact h1 h
 ·rw [if_neg h];exact h2 h
theorem ybf {p:PProg} {C:Int} {m:PMach} (h:okMach p C m) {t:Nat} (ht:t<4):okMach p (C+1) (dL p m t).1:=by
 have hx:=mP h ht;have hx':=hx;obtain⟨a1,a2,a3,a4,a5,a6,a7,a8,a9,a10,a11,a12,a13,a14⟩:=hx';have hc:C≤C+1:=ω;have tr:∀why:Int,0≤why→why≤6→okMach p (C+1) (m.setT t (qH m.thr[t]! why)):=fun why h1 h2=>h.set hc h.mem t ((ywt hx h1 h2).le hc);have hcl:=h.prog.c2;unfold dL;refine aQ (P:=fun r:PMach×Int=>okMach p (C+1) r.1) (fun _=>tr 2 δ δ) fun hpc=>?_;obtain⟨⟨i1,i2,⟨i3,i4,_⟩,⟨i5,i6,_⟩,⟨i7,i8,_⟩,⟨i9,i10,_⟩,i11,i12,i13⟩,hj,hle⟩:=xg4 h.prog (k:=m.thr[t]!.pc.toNat) ω;generalize p.code[m.thr[t]!.pc.toNat]! =i at *;have hb:iW m.thr[t]!.regs[i.b.toNat]!:=mG a1 ω;have ha:iW m.thr[t]!.regs[i.a.toNat]!:=mG a1 ω;have nx:∀(y:PThr) (n:Int),okThr C y→0≤n→n≤255→okMach p (C+1) (m.setT t (jM i y n)):=fun y n k1 k2 k3=>h.set hc h.mem t (xr8 k1 i k2 k3);have n1:0≤m.thr[t]!.pc+1:=ω;have n2:m.thr[t]!.pc+1≤255:=ω;refine aQ (P:=fun r:PMach×Int=>okMach p (C+1) r.1) (fun _=>nx _ _ hx n1 n2) fun _=>?_;refine aQ (P:=fun r:PMach×Int=>okMach p (C+1) r.1) (fun _=>nx _ _ (xfo hx _ (wK _ δ _)) n1 n2) fun _=>?_;refine aQ (P:=fun r:PMach×Int=>okMach p (C+1) r.1) (fun _=>nx _ _ (xfo hx _ hb) n1 n2) fun _=>?_;refine aQ (P:=fun r:PMach×Int=>okMach p (C+1) r.1) (fun _=>nx _ _ (xfo hx _ (wK _ δ _)) n1 n2) fun _=>?_;refine aQ (P:=fun r:PMach×Int=>okMach p (C+1) r.1) (fun hop=>?_) fun _=>?_
 ·generalize (if i.op=17 then m.thr[t]!.regs[i.a.toNat]! else m.thr[t]!.regs[i.b.toNat]!)=q
  refine aQ (P:=fun r:PMach×Int=>okMach p (C+1) r.1) (fun _=>tr _ (xt6 _ _ _ _ _).1 (xt6 _ _ _ _ _).2) fun he=>?_;have he:(lD m.lay p.sizes q (IntKind.u16.wrap i.imm) false).2=0:=Classical.byContradiction he;obtain⟨_,k1,k2⟩:=xr3 h.lay he;refine aQ (P:=fun r:PMach×Int=>okMach p (C+1) r.1) (fun _=>?_) fun _=>?_
  ·exact h.set hc (xxt h.mem k1 k2).1 t (xr8 (xfo hx _ (xxt h.mem k1 k2).2) i n1 n2)
  ·exact h.set hc (xt0 h.mem k1 k2 hb) t (xr8 hx i n1 n2)
 refine aQ (P:=fun r:PMach×Int=>okMach p (C+1) r.1) (fun e=>?_) fun _=>?_
 ·have:=hj (.inl e)
  exact nx _ _ hx i9 ω
 refine aQ (P:=fun r:PMach×Int=>okMach p (C+1) r.1) (fun e=>?_) fun _=>?_
 ·have:=hj (e.elim (fun h=> .inr (.inl h)) fun h=> .inr (.inr (.inl h)))
  refine aQ (P:=fun r:PMach×Int=>okMach p (C+1) r.1) (fun _=>tr 3 δ δ) fun _=>?_;refine nx _ _ hx ?_ ?_
  ·exact aQ (P:=fun n:Int=>0≤n) (fun _=>i9) fun _=>n1
  ·exact aQ (P:=fun n:Int=>n≤255) (fun _=>by omega) fun _=>n2
 refine aQ (P:=fun r:PMach×Int=>okMach p (C+1) r.1) (fun e=>?_) fun _=>?_
 ·have:=hj (.inr (.inr (.inr e)))
  exact nx _ _ (xfo hx _ (wK _ δ _)) i9 ω
 refine aQ (P:=fun r:PMach×Int=>okMach p (C+1) r.1) (fun _=>?_) fun _=>?_
 ·refine aQ (P:=fun r:PMach×Int=>okMach p (C+1) r.1) (fun _=>tr 3 δ δ) fun _=>?_
  refine aQ (P:=fun r:PMach×Int=>okMach p (C+1) r.1) (fun _=>tr 2 δ δ) fun _=>?_;exact nx _ _ hx ha.2.2.1 ω
 refine aQ (P:=fun r:PMach×Int=>okMach p (C+1) r.1) (fun _=>?_) fun _=>?_
 ·refine aQ (P:=fun r:PMach×Int=>okMach p (C+1) r.1) (fun _=>tr 1 δ δ) fun _=>?_
  exact nx _ _ ⟨a1,a2,a3,a4,a5,a6,a7,a8,a9,a10,by show(-1:Int)≤-1;decide,by show(-1:Int)≤255;decide,a13,a14⟩ ω a12
 refine aQ (P:=fun r:PMach×Int=>okMach p (C+1) r.1) (fun _=>?_) fun _=>?_
 ·exact h.set hc h.mem t ⟨a1,by show(0:Int)≤2;decide,by show(2:Int)≤4;decide,a4,n1,n2,a7,by show m.thr[t]!.count≤C+1;omega,a9,a10,a11,a12,a13,a14⟩
 refine aQ (P:=fun r:PMach×Int=>okMach p (C+1) r.1) (fun _=>tr _ (yeo _ _ _ _ _).1 (yeo _ _ _ _ _).2) fun _=>?_;exact nx _ _ (xfo hx _ (yw7 _ _ _ hb (mG a1 ω))) n1 n2
theorem xf0 {α:Type} [Inhabited α] {l:List α} {k:Nat} (h:k<l.length) (x:α):(l.set k x)[k]! =x:=by
 rw [List.getElem!_eq_getElem?_getD,List.getElem?_set_self h];rfl
def xg0 (p:PProg) (x y:PThr):Prop:=y.state=x.state∧0≤y.pc∧y.pc≤255∧(y.count=x.count+1∨y.count=x.count∧y.pc=x.pc+1∧x.pc<p.code.length)
theorem xjf {p:PProg} {C:Int} {m:PMach} (h:okMach p C m) {t:Nat} (ht:t<4) (hg:(dL p m t).2=-1):xg0 p m.thr[t]! (dL p m t).1.thr[t]!:=by
 have ok:=ybf h ht;have hy:=mP ok ht;have hx:=mP h ht;obtain⟨a1,a2,a3,a4,a5,a6,a7,a8,a9,a10,a11,a12,a13,a14⟩:=hx
 revert hg hy ok
 have st:∀(y:PThr),(m.setT t y).thr[t]! =y:=fun y=>xf0 (by rw [h.n];exact ht) y;unfold dL;refine aQ (P:=fun r:PMach×Int=>r.2=-1→okMach p (C+1) r.1→okThr (C+1) r.1.thr[t]!→xg0 p m.thr[t]! r.1.thr[t]!) ?_ fun hpc=>?_
 ·rintro _ e;cases e
 have hpc:m.thr[t]!.pc<p.code.length:=ω;generalize p.code[m.thr[t]!.pc.toNat]! =i at *;have nx:∀(y:PThr) (n:Int),y.state=m.thr[t]!.state→y.count=m.thr[t]!.count→(kW i.op∨n=m.thr[t]!.pc+1)→okThr (C+1) (m.setT t (jM i y n)).thr[t]!→xg0 p m.thr[t]! (m.setT t (jM i y n)).thr[t]!:=fun y n k1 k2 k3 k4=>by
  rw [st] at k4⊢;obtain⟨_,_,_,_,b1,b2,_⟩:=k4;refine⟨k1,b1,b2,?_⟩;by_cases hb:kW i.op
  ·refine .inl ?_
   show(if kW i.op then y.count+1 else y.count)=_;rw [if_pos hb,k2]
  ·refine .inr ⟨?_,k3.resolve_left hb,hpc⟩
   show(if kW i.op then y.count+1 else y.count)=_;rw [if_neg hb,k2]
 have nm:∀(me:PMem) (y:PThr) (n:Int),y.state=m.thr[t]!.state→y.count=m.thr[t]!.count→(kW i.op∨n=m.thr[t]!.pc+1)→okThr (C+1) (m.setT t (jM i y n)).thr[t]!→xg0 p m.thr[t]! (⟨m.lay,me,m.thr.set t (jM i y n)⟩:PMach).thr[t]!:=fun me y n k1 k2 k3 k4=>nx y n k1 k2 k3 k4
 let P:PMach×Int→Prop:=fun r=>r.2=-1→okMach p (C+1) r.1→okThr (C+1) r.1.thr[t]!→xg0 p m.thr[t]! r.1.thr[t]!
 refine aQ (P:=P) (fun _ _ _ hy=>nx _ _ rfl rfl (.inr rfl) hy) fun _=>?_;refine aQ (P:=P) (fun _ _ _ hy=>nx _ _ rfl rfl (.inr rfl) hy) fun _=>?_;refine aQ (P:=P) (fun _ _ _ hy=>nx _ _ rfl rfl (.inr rfl) hy) fun _=>?_;refine aQ (P:=P) (fun _ _ _ hy=>nx _ _ rfl rfl (.inr rfl) hy) fun _=>?_;refine aQ (P:=P) (fun _=>?_) fun _=>?_
 ·refine aQ (P:=P) ?_ fun _=>?_
  ·rintro _ e;cases e
  refine aQ (P:=P) (fun _ _ _ hy=>nm _ _ _ rfl rfl (.inr rfl) hy) fun _ _ _ hy=>nm _ _ _ rfl rfl (.inr rfl) hy
 refine aQ (P:=P) (fun e _ _ hy=>nx _ _ rfl rfl (.inl (.inl (.inl e))) hy) fun _=>?_;refine aQ (P:=P) (fun e=>?_) fun _=>?_
 ·refine aQ (P:=P) ?_ fun _ _ _ hy=>nx _ _ rfl rfl (.inl (.inl (e.elim (fun h=> .inr (.inl h)) fun h=> .inr (.inr (.inl h))))) hy
  ·rintro _ e;cases e
 refine aQ (P:=P) (fun e _ _ hy=>nx _ _ rfl rfl (.inl (.inl (.inr (.inr (.inr e))))) hy) fun _=>?_;refine aQ (P:=P) (fun e=>?_) fun _=>?_
 ·refine aQ (P:=P) ?_ fun _=>?_
  ·rintro _ e;cases e
  refine aQ (P:=P) ?_ fun _ _ _ hy=>nx _ _ rfl rfl (.inl (.inr (.inl e))) hy
  ·rintro _ e;cases e
 refine aQ (P:=P) (fun e=>?_) fun _=>?_
 ·refine aQ (P:=P) ?_ fun _ _ _ hy=>nx _ _ rfl rfl (.inl (.inr (.inr e))) hy
  ·rintro _ e;cases e
 refine aQ (P:=P) ?_ fun _=>?_
 ·rintro _ e;cases e
 refine aQ (P:=P) ?_ fun _ _ _ hy=>nx _ _ rfl rfl (.inr rfl) hy
 ·rintro _ e;cases e
def vM (til:Int) (x:PThr):Nat:=((til-x.count)*300+(299-x.pc)).toNat
theorem xwz {p:PProg} {x y:PThr} {til:Int} (h:xg0 p x y) (h1:x.count<til) (h2:0≤x.pc) (h3:x.pc≤255):vM til y<vM til x∧y.count≤til:=by
 obtain⟨_,k1,k2,k3⟩:=h;unfold vM;rcases k3 with k3|⟨k3,k4,_⟩
 ·rw [k3];omega
 ·rw [k3,k4];omega
theorem xrk (p:PProg) (m:PMach) (t:Nat):∃me y,(dL p m t).1=⟨m.lay,me,m.thr.set t y⟩∧((dL p m t).2≠-1→y.count=m.thr[t]!.count)∧((dL p m t).2=-1∨(dL p m t).2=1∨(dL p m t).2=2):=by
 unfold dL
 let P:PMach×Int→Prop:=fun r=>∃me y,r.1=⟨m.lay,me,m.thr.set t y⟩∧(r.2≠-1→y.count=m.thr[t]!.count)∧(r.2=-1∨r.2=1∨r.2=2)
 have go:∀(me:PMem) (y:PThr),P (⟨m.lay,me,m.thr.set t y⟩,-1):=fun me y=>⟨me,y,rfl,fun h=>absurd rfl h,.inl rfl⟩;have tr:∀(why:Int),P (m.setT t (qH m.thr[t]! why),2):=fun why=>⟨_,_,rfl,fun _=>rfl,.inr (.inr rfl)⟩;refine aQ (P:=P) (fun _=>tr _) fun _=>?_;generalize p.code[m.thr[t]!.pc.toNat]! =i;refine aQ (P:=P) (fun _=>go _ _) fun _=>?_;refine aQ (P:=P) (fun _=>go _ _) fun _=>?_;refine aQ (P:=P) (fun _=>go _ _) fun _=>?_;refine aQ (P:=P) (fun _=>go _ _) fun _=>?_;refine aQ (P:=P) (fun _=>?_) fun _=>?_
 ·refine aQ (P:=P) (fun _=>tr _) fun _=>?_
  exact aQ (P:=P) (fun _=>go _ _) fun _=>go _ _
 refine aQ (P:=P) (fun _=>go _ _) fun _=>?_;refine aQ (P:=P) (fun _=>?_) fun _=>?_
 ·exact aQ (P:=P) (fun _=>tr _) fun _=>go _ _
 refine aQ (P:=P) (fun _=>go _ _) fun _=>?_;refine aQ (P:=P) (fun _=>?_) fun _=>?_
 ·refine aQ (P:=P) (fun _=>tr _) fun _=>?_
  exact aQ (P:=P) (fun _=>tr _) fun _=>go _ _
 refine aQ (P:=P) (fun _=>?_) fun _=>?_
 ·exact aQ (P:=P) (fun _=>tr _) fun _=>go _ _
 refine aQ (P:=P) (fun _=>⟨_,_,rfl,fun _=>rfl,.inr (.inl rfl)⟩) fun _=>?_;exact aQ (P:=P) (fun _=>tr _) fun _=>go _ _
theorem xmj {p:PProg} {D:Int} {m:PMach} (h:okMach p D m) {t:Nat} (ht:t<4) (hc:m.thr[t]!.count+1≤D):okMach p D (dL p m t).1:=by
 have ok:=ybf h ht;obtain⟨me,y,e,k1,_⟩:=xrk p m t;have hy:=mP ok ht;have ey:(dL p m t).1.thr[t]! =y:=by rw [e];exact xf0 (by rw [h.n];exact ht) y
 have hcy:y.count≤D:=by
  by_cases hg:(dL p m t).2=-1
  ·obtain⟨_,_,_,g⟩:=xjf h ht hg
   rw [ey] at g;rcases g with g|g<;>omega
  ·rw [k1 hg];omega
 rw [ey] at hy;obtain⟨b1,b2,b3,b4,b5,b6,b7,b8,b9⟩:=hy;have okm:=ok.mem;rw [e] at okm⊢;exact h.set (Int.le_refl D) okm t ⟨b1,b2,b3,b4,b5,b6,b7,hcy,b9⟩
def vU (p:PProg) (m:PMach) (t:Nat) (n:Int):PMach×Int:=
 if m.thr[t]!.state≠1 then(m,3) else sJ p t (m.thr[t]!.count+n) (vM (m.thr[t]!.count+n) m.thr[t]!) m
theorem ye2 {p:PProg} {D:Int} {t:Nat} (ht:t<4) {til:Int} (htD:til≤D):∀(k:Nat) (m:PMach),okMach p D m→m.thr[t]!.count<til→okMach p D (sJ p t til k m).1
 |0,m,h,_=>h
 |k+1,m,h,hc=>by
  have ok:=xmj h ht ω;unfold sJ;refine aQ (P:=fun r:PMach×Int=>okMach p D r.1) (fun _=>ok) fun hg=>?_;have hg:(dL p m t).2=-1:=Classical.byContradiction hg;obtain⟨_,_,_,g⟩:=xjf h ht hg;refine aQ (P:=fun r:PMach×Int=>okMach p D r.1) (fun _=>ok) fun hne=>?_;exact ye2 ht htD k _ ok (by rcases g with g|g<;>omega)
theorem ye4 {p:PProg} {C n:Int} {m:PMach} (h:okMach p C m) {t:Nat} (ht:t<4) (hn:1≤n):okMach p (C+n) (vU p m t n).1:=by
 have h':okMach p (C+n) m:=⟨h.prog,h.lay,h.mem,h.n,fun x hx=>(h.thr x hx).le ω⟩;obtain⟨_,_,_,_,_,_,_,h8,_⟩:=mP h ht;unfold vU;refine aQ (P:=fun r:PMach×Int=>okMach p (C+n) r.1) (fun _=>h') fun _=>?_;exact ye2 ht ω _ _ h' ω
section
variable {p:PProg} {m:PMach} {t k:Nat} {til:Int}
theorem xsv (hg:(dL p m t).2≠-1):sJ p t til (k+1) m=dL p m t:=by unfold sJ;exact if_pos hg
theorem xst (hg:(dL p m t).2=-1) (he:(dL p m t).1.thr[t]!.count=til):sJ p t til (k+1) m=((dL p m t).1,0):=by
 unfold sJ;exact(if_neg (fun h=>h hg)).trans (if_pos he)
theorem xsu (hg:(dL p m t).2=-1) (he:(dL p m t).1.thr[t]!.count≠til):sJ p t til (k+1) m=sJ p t til k (dL p m t).1:=by
 rw [sJ];exact(if_neg (fun h=>h hg)).trans (if_neg he)
end
theorem yux {p:PProg} {D:Int} {t:Nat} (ht:t<4) {til:Int} (htD:til≤D):∀(k:Nat) (m:PMach),okMach p D m→m.thr[t]!.count<til→vM til m.thr[t]!≤k→sJ p t til k m=sJ p t til (vM til m.thr[t]!) m:=by
 intro k
 induction k using Nat.strongRecOn with
 |_ k ih=>
  intro m h hc hk;obtain⟨_,_,_,_,a5,a6,_⟩:=mP h ht;obtain⟨q,hq⟩:∃q,vM til m.thr[t]! =q+1:=⟨vM til m.thr[t]!-1,by unfold vM;omega⟩;obtain⟨k',rfl⟩:∃k',k=k'+1:=⟨k-1,ω⟩;rw [hq];by_cases hg:(dL p m t).2=-1
  ·by_cases he:(dL p m t).1.thr[t]!.count=til
   ·rw [xst hg he,xst hg he]
   ·rw [xsu hg he,xsu hg he]
    have g:=xjf h ht hg;obtain⟨m1,m2⟩:=xwz g hc a5 a6;have ok:=xmj h ht ω;rw [ih k' ω _ ok ω ω];exact(ih q ω _ ok ω ω).symm
  ·rw [xsv hg,xsv hg]
end Go.Proofs.YthmjocibdepahaaGreat
namespace Go.Proofs.YthmjocibdepahaaGreat
open Go Go.RowKit Rdn Rdn.Dp
structure okLk (l:PLocks):Prop where
 o:l.owner.length=4
 q:l.queue.length=4
 ow:∀x∈l.owner,-1≤x∧x<4
 qu:∀w∈l.queue,w.Nodup∧∀x∈w,0≤x∧x<4
def lk0:PLocks:=⟨[-1,-1,-1,-1],[[],[],[],[]]⟩
theorem yna:okLk lk0:=⟨rfl,rfl,by unfold lk0;decide,by unfold lk0;decide⟩
def uP (l:PLocks) (k t:Int):PLocks×Int:=
 if k<0∨4≤k∨l.owner[k.toNat]! =t then(l,2)
 else if ∃w∈l.queue,t∈w then(l,2)
 else if l.owner[k.toNat]! =-1 then(⟨l.owner.set k.toNat t,l.queue⟩,0)
 else(⟨l.owner,l.queue.set k.toNat (l.queue[k.toNat]!++[t])⟩,1)
def rW (l:PLocks) (k t:Int):PLocks×Int×Bool:=
 if k<0∨4≤k∨l.owner[k.toNat]!≠t then(l,-1,false)
 else match l.queue[k.toNat]! with
  |[]=>(⟨l.owner.set k.toNat (-1),l.queue⟩,-1,true)
  |x::w=>(⟨l.owner.set k.toNat x,l.queue.set k.toNat w⟩,x,true)
theorem xcw {α:Type} {l:List α} {k:Nat} {x y:α} {P:α→Prop} (h:∀z∈l,P z) (hx:P x) (hy:y∈l.set k x):P y:=by
 rcases List.mem_or_eq_of_mem_set hy with h1|rfl
 ·exact h y h1
 ·exact hx
theorem dJ {α:Type} [Inhabited α] {l:List α} {k:Nat} (h:k<l.length):l[k]!∈l:=by
 rw [List.getElem!_eq_getElem?_getD,List.getElem?_eq_getElem h];exact List.getElem_mem h
theorem ync {l:PLocks} (h:okLk l) {k t:Int} (h0:0≤t) (h1:t<4):okLk (uP l k t).1:=by
 unfold uP;refine aQ (P:=fun r:PLocks×Int=>okLk r.1) (fun _=>h) fun c1=>?_;by_cases c2:∃w∈l.queue,t∈w
 ·rw [if_pos c2];exact h
 ·rw [if_neg c2]
  refine aQ (P:=fun r:PLocks×Int=>okLk r.1) (fun _=>?_) fun _=>?_
  ·exact⟨by simp [h.o],h.q,fun x hx=>xcw (P:=fun x=> -1≤x∧x<4) h.ow ⟨ω,h1⟩ hx,h.qu⟩
  ·have hm:l.queue[k.toNat]!∈l.queue:=dJ (by rw [h.q];omega)
   have hq:=h.qu _ hm;refine⟨h.o,by simp [h.q],h.ow,fun w hw=>xcw (P:=fun w:List Int=>w.Nodup∧∀x∈w,0≤x∧x<4) h.qu ⟨?_,fun x hx=>?_⟩ hw⟩
   ·refine List.nodup_append.2 ⟨hq.1,by simp,fun a ha b hb=>?_⟩
    rw [List.mem_singleton] at hb;subst hb;exact fun e=>c2 ⟨_,hm,e▸ha⟩
   ·rcases List.mem_append.1 hx with h2|h2
    ·exact hq.2 x h2
    ·rw [List.mem_singleton] at h2;subst h2;exact⟨h0,h1⟩
theorem xq5 {l:PLocks} (h:okLk l) (k t:Int):okLk (rW l k t).1∧-1≤(rW l k t).2.1∧(rW l k t).2.1<4:=by
 unfold rW;refine aQ (P:=fun r:PLocks×Int×Bool=>okLk r.1∧-1≤r.2.1∧r.2.1<4) (fun _=>⟨h,by show(-1:Int)≤-1;decide,by show(-1:Int)<4;decide⟩) fun c1=>?_;have hm:l.queue[k.toNat]!∈l.queue:=dJ (by rw [h.q];omega);have hq:=h.qu _ hm;split
 ·exact⟨⟨by simp [h.o],h.q,fun x hx=>xcw (P:=fun x=> -1≤x∧x<4) h.ow δ hx,h.qu⟩,by show(-1:Int)≤-1;decide,by show(-1:Int)<4;decide⟩
 ·rename_i x w e
  rw [e] at hq;have hx:=hq.2 x ξ;exact⟨⟨by simp [h.o],by simp [h.q],fun y hy=>xcw (P:=fun x=> -1≤x∧x<4) h.ow ⟨ω,hx.2⟩ hy,fun v hv=>xcw (P:=fun w:List Int=>w.Nodup∧∀x∈w,0≤x∧x<4) h.qu ⟨(List.nodup_cons.1 hq.1).2,fun y hy=>hq.2 y (by simp [hy])⟩ hv⟩,by show-1≤x;omega,hx.2⟩
def xiq (l:PLocks) (t:Int):PLocks:=⟨l.owner,l.queue.map fun w=>w.filter fun x=>x !=t⟩
def xld (t:Int) (s:PLocks×List Int) (i:Nat):PLocks×List Int:=((rW s.1 i t).1,if(rW s.1 i t).2.2=true∧0≤(rW s.1 i t).2.1 then s.2++[(rW s.1 i t).2.1] else s.2)
def xa1 (l:PLocks) (t:Int) (k:Nat):PLocks×List Int:=(List.range k).foldl (xld t) (xiq l t,[])
def xI (l:PLocks) (t:Int):PLocks×List Int:=xa1 l t 4
theorem xxs (l:PLocks) (t:Int) (k:Nat):xa1 l t (k+1)=xld t (xa1 l t k) k:=by
 unfold xa1;rw [List.range_succ,List.foldl_append];rfl
theorem ynb {l:PLocks} (h:okLk l) (t:Int):okLk (xiq l t):=⟨h.o,by simp [xiq,h.q],h.ow,fun w hw=>by
 obtain⟨v,hv,rfl⟩:=List.mem_map.1 hw;have hq:=h.qu v hv;exact⟨hq.1.filter _,fun x hx=>hq.2 x (List.mem_filter.1 hx).1⟩⟩
theorem xip {l:PLocks} (h:okLk l) (t:Int):∀k:Nat,okLk (xa1 l t k).1∧(xa1 l t k).2.length≤k∧∀x∈(xa1 l t k).2,0≤x∧x<4
 |0=>⟨ynb h t,Nat.le_refl 0,fun x hx=>by simp [xa1] at hx⟩
 |k+1=>by
  obtain⟨h1,h2,h3⟩:=xip h t k;rw [xxs];obtain⟨g1,g2,g3⟩:=xq5 h1 k t;unfold xld;refine⟨g1,?_,?_⟩
  ·refine aQ (P:=fun r:List Int=>r.length≤k+1) (fun _=>by simp;omega) fun _=>by omega
  ·refine aQ (P:=fun r:List Int=>∀x∈r,0≤x∧x<4) (fun hc x hx=>?_) fun _=>h3
   rcases List.mem_append.1 hx with h4|h4
   ·exact h3 x h4
   ·rw [List.mem_singleton] at h4;subst h4;exact⟨hc.2,g3⟩
theorem okMach.le {p:PProg} {C D:Int} {m:PMach} (h:okMach p C m) (hc:C≤D):okMach p D m:=⟨h.prog,h.lay,h.mem,h.n,fun x hx=>(h.thr x hx).le hc⟩
def xck (m:PMach) (t:Nat):Prop:=m.thr[t]!.state=1∧m.thr[t]!.handler≠-1∧m.thr[t]!.saved=-1
def zD (m:PMach) (t:Nat):PMach:=m.setT t {m.thr[t]! with saved:=m.thr[t]!.pc,pc:=m.thr[t]!.handler}
theorem yus {p:PProg} {C:Int} {m:PMach} (h:okMach p C m) {t:Nat} (ht:t<4) (hc:xck m t):okMach p C (zD m t):=by
 obtain⟨a1,a2,a3,a4,a5,a6,a7,a8,a9,a10,a11,a12,a13⟩:=mP h ht;obtain⟨_,c2,_⟩:=hc;exact h.set (Int.le_refl C) h.mem t ⟨a1,a2,a3,a4,by show 0≤m.thr[t]!.handler;omega,a10,a7,a8,a9,a10,by show-1≤m.thr[t]!.pc;omega,a6,a13⟩
theorem xff (l:PLay) (s:List Int) {x:Canon} (hx:0≤x.val∧x.val≤65535):iW (iD l s x).1:=by
 unfold iD;refine aQ (P:=fun r:Cell×Int=>iW r.1) (fun _=>xdd) fun _=>?_;refine aQ (P:=fun r:Cell×Int=>iW r.1) (fun _=>⟨Int.le_refl 0,by show(0:Int)≤2;decide,hx.1,hx.2⟩) fun _=>?_;exact aQ (P:=fun r:Cell×Int=>iW r.1) (fun _=>wK 2 δ _) fun _=>wK 1 δ _
def kT (x:PThr) (v:Cell):PThr:={iQ x 0 v with state:=1}
theorem yfe {C:Int} {x:PThr} (h:okThr C x) {v:Cell} (hv:iW v):okThr C (kT x v):=by
 obtain⟨a1,a2,a3,a4,a5⟩:=xfo h 0 hv;exact⟨a1,by show(0:Int)≤1;decide,by show(1:Int)≤4;decide,a4,a5⟩
def xjz (x:PThr):PThr:={x with state:=3}
theorem yxi {C:Int} {x:PThr} (h:okThr C x):okThr C (xjz x):=by
 obtain⟨a1,a2,a3,a4,a5⟩:=h;exact⟨a1,by show(0:Int)≤3;decide,by show(3:Int)≤4;decide,a4,a5⟩
theorem xw1 {C:Int} {x:PThr} (h:okThr C x) {trap:Int} (code:Int) (h1:0≤trap) (h2:trap≤6):okThr C (xbr x trap code):=by
 obtain⟨a1,a2,a3,a4,a5,a6,a7,a8,a9,a10,a11,a12,a13,a14⟩:=h;exact⟨a1,by show(0:Int)≤4;decide,by show(4:Int)≤4;decide,a4,a5,a6,a7,a8,a9,a10,a11,a12,h1,h2⟩
theorem ywj {C:Int} (hC:0≤C) {pc:Int} (h1:0≤pc) (h2:pc≤255) {a:Cell} (ha:iW a):okThr C (lV pc a):=by
 refine⟨fun c hc=>?_,by show(0:Int)≤1;decide,by show(1:Int)≤4;decide,rfl,h1,h2,Int.le_refl 0,hC,by show(-1:Int)≤-1;decide,by show(-1:Int)≤255;decide,by show(-1:Int)≤-1;decide,by show(-1:Int)≤255;decide,Int.le_refl 0,by show(0:Int)≤6;decide⟩;rcases List.mem_cons.1 hc with rfl|hc
 ·exact ha
 ·rw [(List.mem_replicate.1 hc).2];exact xdd
theorem ywi {C:Int} (hC:0≤C):okThr C thr0:=by
 refine⟨fun c hc=>?_,Int.le_refl 0,by show(0:Int)≤4;decide,rfl,Int.le_refl 0,by show(0:Int)≤255;decide,Int.le_refl 0,hC,by show(-1:Int)≤-1;decide,by show(-1:Int)≤255;decide,by show(-1:Int)≤-1;decide,by show(-1:Int)≤255;decide,Int.le_refl 0,by show(0:Int)≤6;decide⟩;rw [(List.mem_replicate.1 hc).2];exact xdd
end Go.Proofs.YthmjocibdepahaaGreat
