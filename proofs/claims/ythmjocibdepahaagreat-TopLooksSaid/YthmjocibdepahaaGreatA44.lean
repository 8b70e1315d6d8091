import Derived.Test.YthmjocibdepahaaGreatA43
set_option linter.defProp false
set_option linter.unusedSimpArgs false
set_option linter.unusedVariables false
set_option maxHeartbeats 64000000
set_option maxRecDepth 100000
namespace Go.Proofs.YthmjocibdepahaaGreat
open Go Go.RowKit Rdn Rdn.Dp
def xzz:=aC 87
def xyk:=aC 33
def xzq:=aC 10
def xhx (p:PProg) (m:PMach) (r k:Nat):Canon:=jD m.lay p.sizes (tJ m.mem (m.lay.bases[r]!+(k:Int)))
def lH (p:PProg) (m:PMach) (r:Nat):List Canon:=(List.range p.sizes[r]!.toNat).map (xhx p m r)
def qI (l:PLay) (s:List Int) (x:PThr):View:=⟨x.state,x.pc,x.count,x.handler,x.saved,x.trap,x.code,x.regs.map (jD l s)⟩
def uZ (p:PProg) (m:PMach):State:=⟨(List.range p.sizes.length).map (lH p m),m.thr.map (qI m.lay p.sizes)⟩
theorem xq6 {m:PMem} (h:nJ m) {addr:Int} (h0:0≤addr) (h1:addr<512):iW (tJ m addr):=by
 obtain⟨k1,k2,k3,k4⟩:=h;unfold tJ;dsimp only;split
 ·rename_i c
  have hl:=k4 (addr / 4 % 4).toNat ω;unfold lF at hl;rw [if_neg ω] at hl;obtain⟨-,-,-,l4,l5⟩:=hl;exact mG l5 ω
 ·exact mG k3 ω
theorem yuh (m:PMem) (h:nJ m) (addr:Int) (h0:0≤addr) (h1:addr<512):Fnc Tryz.prog 87 [iU false m,.int .i64 addr] (fun x obs=>x=.tup [bC (tJ m addr),.bool true]∧obs=[]):=by
 obtain⟨k1,k2,k3,k4⟩:=h;have hl:=k4 (addr / 4 % 4).toNat ω;unfold tJ;dsimp only;by_cases c:m.lines[(addr / 4 % 4).toNat]!.tag=addr / 4
 ·rw [if_pos c]
  unfold lF at hl;rw [if_neg ω] at hl;obtain⟨-,-,-,l4,-⟩:=hl;exact aZ xzz
 ·rw [if_neg c]
  exact aZ xzz
theorem ycj (p:PProg) (m:PMach) (r k:Nat) (hk:(k:Int)<p.sizes[r]!):(lH p m r).take (k+1)=(lH p m r).take k++[xhx p m r k]:=by
 rw [List.take_add_one];have:(lH p m r)[k]?=some (xhx p m r k):=by
  unfold lH;rw [List.getElem?_map,List.getElem?_range (show k<p.sizes[r]!.toNat by omega)];rfl
 rw [this];rfl
theorem xjo (p:PProg) (m:PMach) (r:Nat):(lH p m r).length=p.sizes[r]!.toNat:=by simp [lH]
def jX (p:PProg) (m:PMach) (n:Nat):List (List Canon):=(List.range n).map (lH p m)
theorem yck (p:PProg) (m:PMach) (n:Nat):jX p m (n+1)=jX p m n++[lH p m n]:=by
 simp [jX,List.range_succ]
theorem yia (p:PProg) (m:PMach) (hl:jW m.lay p.sizes) (hm:nJ m.mem):Fnc Tryz.prog 33 [iU false m.mem,dQ false m.lay,.sl false 1 (bH p.sizes)] (fun x obs=>x=.own 0 0∧obs=[⟨.row 66,true,0,.arr 1 ((jX p m p.sizes.length).map (bD true 4 aS))⟩]):=by
 have h3:=hl.1.2.2;have hb:=hl.2.1;refine aI xyk fun W S=>?_;refine pW (i:=7) (e:=66) (s:=1) rfl δ ?_;refine gY [2,3,4,16,17] (fun q:{q:Nat // q≤p.sizes.length}=>[(7,.own 2 q.1),(18,.int .i64 q.1)]) (fun q=>[⟨.box false 37,true,0,iU false m.mem⟩,⟨.box false 33,true,0,dQ false m.lay⟩,⟨.row 66,true,q.1,.arr 1 ((jX p m q.1).map (bD true 4 aS))⟩]) (fun q=>p.sizes.length-q.1) (⟨0,by simp⟩) 3 τ ?_ (by first|rfl|(simp only [go_sem];done)|(simp only [go_sem];simp [jX];done)) ξ φ φ (by first|rfl|(simp only [go_sem];done)|(simp only [jX];(try simp only [go_sem]);first|done|rfl)) ?_
 ·(simp only [go_sem];(try simp [jX]);done)
 intro J hJ
 rintro⟨r,hr0⟩
 by_cases hlt:r<p.sizes.length
 ·have h4:=rG hl hlt
  have hJ0:=hJ;refine aA ?_;refine pW (i:=10) (e:=104) (s:=4) rfl δ ?_;refine bI [2,3,4,7,8,16,17,18,23] (fun q:{q:Nat // (q:Int)≤p.sizes[r]!}=>[(10,.own 3 q.1),(24,.int .i64 q.1)]) (fun q=>[⟨.box false 37,true,0,iU false m.mem⟩,⟨.box false 33,true,0,dQ false m.lay⟩,⟨.row 66,true,r,.arr 1 ((jX p m r).map (bD true 4 aS))⟩,⟨.row 104,true,q.1,.arr 4 (((lH p m r).take q.1).map aS)⟩]) (fun q=>(p.sizes[r]!).toNat-q.1) (⟨0,ω⟩) 4 ?_;intro J hJ
  rintro⟨k,hk0⟩
  by_cases hlk:(k:Int)<p.sizes[r]!
  ·have hi:nG p.sizes (r:Int) (k:Int):=⟨ω,ω,ω,by rw [Int.toNat_natCast];exact hlk⟩
   have fa:=xtj m.lay p.sizes r k hl hi;rw [Int.toNat_natCast] at fa;have fs:=yuh m.mem hm (m.lay.bases[r]!+k) ω ω;have fc:=xuv m.lay p.sizes (tJ m.mem (m.lay.bases[r]!+k)) hl (xq6 hm ω ω);have ht:=ycj p m r k hlk;have hcl:xhx p m r k=jD m.lay p.sizes (tJ m.mem (m.lay.bases[r]!+k)):=rfl;rw [hcl] at ht;generalize tJ m.mem (m.lay.bases[r]!+k)=c at fs fc ht;generalize jD m.lay p.sizes c=d at fc ht;refine aA ?_;refine wU fa fs fc ?_;exact zn4 (hJ _ (⟨k+1,ω⟩) ψ) ht
  ·have hJ:=hJ0
   have hz:(k:Int)=p.sizes[r]!:=ω;have ht:(lH p m r).take k=lH p m r:=List.take_of_length_le (by rw [xjo];omega);have hs:=yck p m r;dsimp only;rw [ht];have hrl:(jX p m r).length=r:=by simp [jX]
   refine aA ?_;exact zn3 (hJ _ (⟨r+1,hlt⟩) ψ) hs
 obtain rfl:r=p.sizes.length:=ω;refine aA ?_;refine ret xyk [2] ?_;exact fP
theorem xuf {l:PLay} {s:List Int} (x:PThr) (k:Nat) (hk:k<x.regs.length):(qI l s x).regs.take (k+1)=(qI l s x).regs.take k++[jD l s x.regs[k]!]:=by
 rw [List.take_add_one];have:(qI l s x).regs[k]?=some (jD l s x.regs[k]!):=by
  show(x.regs.map (jD l s))[k]?=_;rw [List.getElem?_map,List.getElem?_eq_getElem hk,getElem!_pos x.regs k hk];rfl
 rw [this];rfl
def zH (p:PProg) (m:PMach) (n:Nat):List View:=(m.thr.take n).map (qI m.lay p.sizes)
theorem yx8 (p:PProg) (m:PMach) (n:Nat) (h:n<m.thr.length):zH p m (n+1)=zH p m n++[qI m.lay p.sizes m.thr[n]!]:=by
 unfold zH;rw [List.take_add_one,List.getElem?_eq_getElem h,getElem!_pos m.thr n h,List.map_append];rfl
abbrev xY (x:PThr) (r g:Nat):V:=.agg [.int .i64 x.state,.int .i64 x.pc,.int .i64 x.count,.int .i64 x.handler,.int .i64 x.saved,.int .i64 x.trap,.int .u16 x.code,.own r g]
theorem ycd (p:PProg) (m:PMach) (C:Int) (h:okMach p C m):Fnc Tryz.prog 10 [dM false p,eG false m] (fun x obs=>x=.agg [.sl true 1 ((jX p m p.sizes.length).map (bD true 4 aS)),.sl true 8 ((zH p m m.thr.length).map (oG true))]∧obs=[]):=by
 have h4:=h.n;have hl:=h.lay;have fr:=yia p m hl h.mem;refine aI xzq fun W S=>?_;refine dD (fr) ?_;refine lZ 4 1 68 8 rfl rfl δ rfl ?_;refine aK ?_;refine gY [2,3,4,5,20,21] (fun q:{q:Nat // q≤m.thr.length}=>[(22,.int .i64 q.1)]) (fun q=>[⟨.box false 30,true,0,dM false p⟩,⟨.box false 40,true,0,eG false m⟩,⟨.box false 50,true,0,.agg [.nilS,.nilS]⟩,⟨.row 66,true,0,.arr 1 ((jX p m p.sizes.length).map (bD true 4 aS))⟩,⟨.box false 50,true,0,.agg [.own 3 0,.own 5 q.1]⟩,⟨.row 68,true,q.1,.arr 8 ((zH p m q.1).map (oG true))⟩]) (fun q=>m.thr.length-q.1) (⟨0,by simp⟩) 6 τ ?_ (by first|rfl|(simp only [go_sem];done)|(simp only [go_sem];simp [zH];done)) ξ φ φ (by first|rfl|(simp only [go_sem];done)|(simp only [zH];(try simp only [go_sem]);first|done|rfl)) ?_
 ·(simp only [go_sem];(try simp [zH]);done)
 intro J hJ
 rintro⟨i,hi0⟩
 by_cases hlt:i<m.thr.length
 ·have hx:=mP h (t:=i) ω
  have hJ0:=hJ;have h8:=hx.2.2.2.1;have hvl:(zH p m i).length=i:=by simp [zH];omega
  refine aA ?_;refine lZ 7 7 104 4 rfl rfl δ rfl ?_;refine aK ?_;refine bI [2,3,4,5,8,20,21,22,42,43] (fun q:{q:Nat // q≤m.thr[i]!.regs.length}=>[(44,.int .i64 q.1)]) (fun q=>[⟨.box false 30,true,0,dM false p⟩,⟨.box false 40,true,0,eG false m⟩,⟨.box false 50,true,0,.agg [.nilS,.nilS]⟩,⟨.row 66,true,0,.arr 1 ((jX p m p.sizes.length).map (bD true 4 aS))⟩,⟨.box false 50,true,0,.agg [.own 3 0,.own 5 i]⟩,⟨.row 68,true,i,.arr 8 ((zH p m i).map (oG true))⟩,⟨.box false 113,true,0,dW false m.thr[i]!⟩,⟨.box false 68,true,0,xY m.thr[i]! 8 q.1⟩,⟨.row 104,true,q.1,.arr 4 (((qI m.lay p.sizes m.thr[i]!).regs.take q.1).map aS)⟩]) (fun q=>m.thr[i]!.regs.length-q.1) (⟨0,by simp⟩) 9 ?_;intro J hJ
  rintro⟨k,hk0⟩
  by_cases hlk:k<m.thr[i]!.regs.length
  ·have fc:=xuv m.lay p.sizes m.thr[i]!.regs[k]! hl (mG hx.1 hlk)
   have ht:=xuf (l:=m.lay) (s:=p.sizes) m.thr[i]! k hlk;generalize jD m.lay p.sizes m.thr[i]!.regs[k]! =d at fc ht;refine aA ?_;refine aF (fc) ?_;refine lI 9 (hJ _ (⟨k+1,hlk⟩) ψ) rfl ξ ?_ φ (by first|rfl|(simp only [go_sem];done)|(simp only [ht];(try simp only [go_sem]);first|done|rfl)) ?_
   ·exact zna ht
   ·exact znb ht
  ·have hJ:=hJ0
   obtain rfl:k=m.thr[i]!.regs.length:=ω;have ht:(qI m.lay p.sizes m.thr[i]!).regs.take m.thr[i]!.regs.length=(qI m.lay p.sizes m.thr[i]!).regs:=List.take_of_length_le (by simp [qI]);have hs:=yx8 p m i hlt;dsimp only;rw [ht];refine aA ?_;refine lI 6 (hJ _ (⟨i+1,hlt⟩) ψ) rfl ξ ?_ φ (by first|rfl|(simp only [go_sem];done)|(simp only [hs,qI];(try simp only [go_sem]);first|done|rfl)) ?_
   ·(first|rfl|(simp only [go_sem];done)|(simp only [go_sem];simp only [hs,qI];done)|(simp only [hs,qI];done)|(simp only [go_sem];simp [hs,qI];done)|(simp [hs,qI];done))
   ·(simp only [go_sem];(repeat' (refine And.intro ?_ ?_))<;>first|exact trivial|with_reducible rfl|(simp only [hs,qI];done)|(simp only [hs,qI];with_reducible rfl)|(simp [hs,qI];done)|(simp [hs,qI];omega)|(simp only [hs,qI];rfl)|skip)
 obtain rfl:i=m.thr.length:=ω;refine aA ?_;exact aU xzq
end Go.Proofs.YthmjocibdepahaaGreat
