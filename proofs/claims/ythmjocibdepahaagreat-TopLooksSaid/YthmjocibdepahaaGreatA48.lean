import Derived.Test.YthmjocibdepahaaGreatA47
set_option linter.defProp false
set_option linter.unusedSimpArgs false
set_option linter.unusedVariables false
set_option maxHeartbeats 64000000
set_option maxRecDepth 100000
namespace Go.Proofs.YthmjocibdepahaaGreat
open Go Go.RowKit Rdn Rdn.Dp
def xyl:=aC 66
def xzv:=aC 22
abbrev qU (l:List Canon):Ob:=⟨.row 104,true,0,.arr 4 (l.map aS)⟩
def rgO (p:PProg) (m:PMach) (r n:Nat):List V:=if n=0 then [] else .own r 0::((jX p m n).drop 1).map (bD false 4 aS)
def rg0 (p:PProg) (m:PMach) (n:Nat):List Canon:=if n=0 then [] else lH p m 0
theorem xs3 (p:PProg) (m:PMach) (r n:Nat):rgO p m r (n+1)=.own r 0::((jX p m (n+1)).drop 1).map (bD false 4 aS):=if_neg ω
theorem yt2 (p:PProg) (m:PMach) (r:Nat):rgO p m r 1=[.own r 0]:=by rw [xs3];simp [jX]
theorem ysr (p:PProg) (m:PMach) (n:Nat):(jX p m (n+2)).drop 1=(jX p m (n+1)).drop 1++[lH p m (n+1)]:=by
 rw [yck p m (n+1),List.drop_append_of_le_length (by simp [jX])]
theorem yt3 (p:PProg) (m:PMach) {r n k:Nat} (h:r<k):V.scps k (rgO p m r n)=true:=by
 unfold rgO;split
 ·rfl
 ·simp only [V.scps,V.scp,ydj,Bool.and_true,decide_eq_true_eq]
  exact h
attribute [local go_sem] yt3
theorem yib (p:PProg) (m:PMach) (hl:jW m.lay p.sizes) (hm:nJ m.mem):Fnc Tryz.prog 66 [iU false m.mem,dQ false m.lay,.sl false 1 (bH p.sizes)] (fun x obs=>x=.own 0 0∧obs=[⟨.rows false 66,true,0,.arr 1 (.own 1 0::((jX p m p.sizes.length).drop 1).map (bD false 4 aS))⟩,qU (lH p m 0)]):=by
 have h3:=hl.1.2.2;have hb:=hl.2.1;have hn1:=hl.1.2.1;refine aI xyl fun W S=>?_;refine pW (i:=7) (e:=66) (s:=1) rfl δ ?_;refine iI 2 rfl ?_;refine xi7 104 4 δ ?_;simp only [go_sem];refine gY [2,3,4,12,13] (fun q:{q:Nat // q≤p.sizes.length}=>[(7,.own 2 0),(14,.int .i64 q.1)]) (fun q=>[⟨.box false 37,true,0,iU false m.mem⟩,⟨.box false 33,true,0,dQ false m.lay⟩,⟨.rows false 66,true,0,.arr 1 (rgO p m 3 q.1)⟩,qU (rg0 p m q.1)]) (fun q=>p.sizes.length-q.1) (⟨0,by simp⟩) 4 τ ?_ (by first|rfl|(simp only [go_sem];done)|(simp only [go_sem];simp [rgO,rg0];done)) ξ φ φ (by first|rfl|(simp only [go_sem];done)|(simp only [rgO,rg0];(try simp only [go_sem]);first|done|rfl)) ?_
 ·(simp only [go_sem];(try simp [rgO,rg0]);done)
 intro J hJ
 rintro⟨r,hr0⟩
 by_cases hlt:r<p.sizes.length
 ·have h4:=rG hl hlt
  have hJ0:=hJ;refine aA ?_;refine pW (i:=10) (e:=104) (s:=4) rfl δ ?_;refine bI [2,3,4,7,8,12,13,14,19] (fun q:{q:Nat // (q:Int)≤p.sizes[r]!}=>[(10,.own 4 q.1),(20,.int .i64 q.1)]) (fun q=>[⟨.box false 37,true,0,iU false m.mem⟩,⟨.box false 33,true,0,dQ false m.lay⟩,⟨.rows false 66,true,0,.arr 1 (rgO p m 3 r)⟩,qU (rg0 p m r),⟨.row 104,true,q.1,.arr 4 (((lH p m r).take q.1).map aS)⟩]) (fun q=>(p.sizes[r]!).toNat-q.1) (⟨0,ω⟩) 5 ?_;intro J hJ
  rintro⟨k,hk0⟩
  by_cases hlk:(k:Int)<p.sizes[r]!
  ·have fs:=xxv m.mem hm (m.lay.bases[r]!+k) ω ω
   have fc:=xkc m.lay p.sizes (tJ m.mem (m.lay.bases[r]!+k)) hl (xq6 hm ω ω);have ht:=ycj p m r k hlk;have hcl:xhx p m r k=jD m.lay p.sizes (tJ m.mem (m.lay.bases[r]!+k)):=rfl;rw [hcl] at ht;generalize tJ m.mem (m.lay.bases[r]!+k)=c at fs fc ht;generalize jD m.lay p.sizes c=d at fc ht;refine aA ?_;refine jC fs fc ?_;exact rQ (hJ _ (⟨k+1,ω⟩) ψ) ht
  ·have hJ:=hJ0
   have hz:(k:Int)=p.sizes[r]!:=ω;have ht:(lH p m r).take k=lH p m r:=List.take_of_length_le (by rw [xjo];omega);dsimp only;rw [ht];by_cases r0:r=0
   ·subst r0
    rw [show rgO p m 3 0=[] from rfl,show rg0 p m 0=[] from rfl];refine bF ?_;refine cZ ?_;refine bF ?_;refine kZ (dH (fu:=[(),()]) ?_);refine bK ?_;refine xC rfl rfl χ ?_;simp only [go_sem];refine dH (fu:=[(),()]) ?_;refine bK ?_;refine aA ?_;refine dS false [0,1,2,4] [2,3,4,7,12,13,14] χ χ ?_;simp only [go_sem];have hJ:=hJ0;have e1:=yt2 p m 3;have e2:rg0 p m 1=lH p m 0:=rfl;exact zn4 (hJ _ (⟨1,hlt⟩) ψ) (And.intro e1 (e2))
   ·obtain⟨n,rfl⟩:∃n,r=n+1:=⟨r-1,ω⟩
    rw [xs3,show rg0 p m (n+1)=lH p m 0 from rfl];have e1:rgO p m 3 (n+1+1)=.own 3 0::((jX p m (n+1)).drop 1).map (bD false 4 aS)++[bD false 4 aS (lH p m (n+1))]:=by rw [xs3,ysr,List.map_append];rfl
    have e2:rg0 p m (n+1+1)=lH p m 0:=rfl;have hJ:=hJ0;have hrl:(jX p m (n+1)).length=n+1:=by simp [jX]
    refine aA ?_;refine dS false [0,1,2,3] [2,3,4,7,12,13,14] χ χ ?_;simp only [go_sem];exact zn4 (hJ _ (⟨n+1+1,hlt⟩) ψ) (And.intro e1 (e2))
 obtain rfl:r=p.sizes.length:=ω;have e1:rgO p m 3 p.sizes.length=.own 3 0::((jX p m p.sizes.length).drop 1).map (bD false 4 aS):=if_neg ω;have e2:rg0 p m p.sizes.length=lH p m 0:=if_neg ω;dsimp only;rw [e1,e2];refine aA ?_;refine xbd xyl [2,3] ?_;exact fP
def wR (m:PMach) (r n:Nat):List V:=(List.range (min n 4)).map fun j=>xY m.thr[j]! (r+j) 0
abbrev zA (p:PProg) (m:PMach) (n j:Nat):Ob:=qU (if j<n then(qI m.lay p.sizes m.thr[j]!).regs else [])
theorem yxe (m:PMach) (n:Nat):V.scps 14 (wR m 7 n)=true:=by
 unfold wR;generalize hk:min n 4=k;rcases(show k=0∨k=1∨k=2∨k=3∨k=4 by omega) with rfl|rfl|rfl|rfl|rfl<;>rfl
theorem yxf (m:PMach) (n:Nat):V.scps 11 (wR m 7 n)=true:=by
 unfold wR;generalize hk:min n 4=k;rcases(show k=0∨k=1∨k=2∨k=3∨k=4 by omega) with rfl|rfl|rfl|rfl|rfl<;>rfl
attribute [local go_sem] yxe yxf
theorem yxa (m:PMach) (r:Nat):wR m r 0=[]:=rfl
theorem yxb (m:PMach) (r:Nat):wR m r 1=[xY m.thr[0]! r 0]:=rfl
theorem yxc (m:PMach) (r:Nat):wR m r 2=[xY m.thr[0]! r 0,xY m.thr[1]! (r+1) 0]:=rfl
theorem yxd (m:PMach) (r:Nat):wR m r 3=[xY m.thr[0]! r 0,xY m.thr[1]! (r+1) 0,xY m.thr[2]! (r+2) 0]:=rfl
theorem yfa (m:PMach) (r:Nat):wR m r 4=[xY m.thr[0]! r 0,xY m.thr[1]! (r+1) 0,xY m.thr[2]! (r+2) 0,xY m.thr[3]! (r+3) 0]:=rfl
theorem yte (p:PProg) (m:PMach) (C:Int) (h:okMach p C m):Fnc Tryz.prog 22 [dM false p,eG false m] (fun x obs=>x=.agg [.own 0 0,.own 2 0]∧obs=[⟨.rows false 66,true,0,.arr 1 (.own 1 0::((jX p m p.sizes.length).drop 1).map (bD false 4 aS))⟩,qU (lH p m 0),⟨.rows false 68,true,0,.arr 8 (wR m 3 4)⟩,zA p m 4 0,zA p m 4 1,zA p m 4 2,zA p m 4 3]):=by
 have h4:=h.n;have hl:=h.lay;have fr:=yib p m hl h.mem;refine aI xzv fun W S=>?_;refine dD (fr) ?_;refine lZ 5 1 68 8 rfl rfl δ rfl ?_;refine iI 6 rfl ?_;refine xi7 104 4 δ (xi7 104 4 δ (xi7 104 4 δ (xi7 104 4 δ ?_)));simp only [go_sem];refine gY [2,3,4,5,20,21] (fun q:{q:Nat // q≤4}=>[(22,.int .i64 q.1)]) (fun q=>[⟨.box false 30,true,0,dM false p⟩,⟨.box false 40,true,0,eG false m⟩,⟨.box false 50,true,0,.agg [.nilS,.nilS]⟩,⟨.rows false 66,true,0,.arr 1 (.own 4 0::((jX p m p.sizes.length).drop 1).map (bD false 4 aS))⟩,qU (lH p m 0),⟨.box false 50,true,0,.agg [.own 3 0,.own 6 0]⟩,⟨.rows false 68,true,0,.arr 8 (wR m 7 q.1)⟩,zA p m q.1 0,zA p m q.1 1,zA p m q.1 2,zA p m q.1 3]) (fun q=>4-q.1) (⟨0,δ⟩) 11 τ ?_ (by first|rfl|(simp only [go_sem];done)|(simp only [go_sem];simp [wR];done)) ξ φ φ (by first|rfl|(simp only [go_sem];done)|(simp only [wR];(try simp only [go_sem]);first|done|rfl)) ?_
 ·(simp only [go_sem];(try simp [wR]);done)
 intro J hJ
 rintro⟨i,hi0⟩
 by_cases hlt:i<4
 ·have hx:=mP h (t:=i) ω
  have hJ0:=hJ;have h8:=hx.2.2.2.1;refine aA ?_;refine lZ 12 7 104 4 rfl rfl δ rfl ?_;refine aK ?_;refine bI [2,3,4,5,8,20,21,22,42,43] (fun q:{q:Nat // q≤m.thr[i]!.regs.length}=>[(44,.int .i64 q.1)]) (fun q=>[⟨.box false 30,true,0,dM false p⟩,⟨.box false 40,true,0,eG false m⟩,⟨.box false 50,true,0,.agg [.nilS,.nilS]⟩,⟨.rows false 66,true,0,.arr 1 (.own 4 0::((jX p m p.sizes.length).drop 1).map (bD false 4 aS))⟩,qU (lH p m 0),⟨.box false 50,true,0,.agg [.own 3 0,.own 6 0]⟩,⟨.rows false 68,true,0,.arr 8 (wR m 7 i)⟩,zA p m i 0,zA p m i 1,zA p m i 2,zA p m i 3,⟨.box false 113,true,0,dW false m.thr[i]!⟩,⟨.box false 68,true,0,xY m.thr[i]! 13 q.1⟩,⟨.row 104,true,q.1,.arr 4 (((qI m.lay p.sizes m.thr[i]!).regs.take q.1).map aS)⟩]) (fun q=>m.thr[i]!.regs.length-q.1) (⟨0,by simp⟩) 14 ?_;intro J hJ
  rintro⟨k,hk0⟩
  by_cases hlk:k<m.thr[i]!.regs.length
  ·have fc:=xkc m.lay p.sizes m.thr[i]!.regs[k]! hl (mG hx.1 hlk)
   have ht:=xuf (l:=m.lay) (s:=p.sizes) m.thr[i]! k hlk;generalize jD m.lay p.sizes m.thr[i]!.regs[k]! =d at fc ht;refine aA ?_;refine aF (fc) ?_;refine lI 14 (hJ _ (⟨k+1,hlk⟩) ψ) rfl ξ ?_ φ (by first|rfl|(simp only [go_sem];done)|(simp only [ht];(try simp only [go_sem]);first|done|rfl)) ?_
   ·exact zna ht
   ·exact znb ht
  ·obtain rfl:k=m.thr[i]!.regs.length:=ω
   have ht:(qI m.lay p.sizes m.thr[i]!).regs.take m.thr[i]!.regs.length=(qI m.lay p.sizes m.thr[i]!).regs:=List.take_of_length_le (by simp [qI]);dsimp only;rw [ht];obtain⟨I,hI⟩:∃I,I=i:=⟨i,rfl⟩;rcases(show i=0∨i=1∨i=2∨i=3 by omega) with rfl|rfl|rfl|rfl
   all_goals
    have hJ:=hJ0;simp only [yxa,yxb,yxc,yxd];refine bF ?_;refine cZ ?_;refine bF ?_;refine kZ (dH (fu:=[(),(),()]) ?_);refine bK ?_;refine xC rfl rfl χ ?_;simp only [go_sem];refine dH (fu:=[(),(),(),()]) ?_;refine bK ?_;refine aA ?_;refine dS false (([0,1,2,3,4,5,6,7,8,9,10]:List Nat).set (7+I) 13) [2,3,4,5,20,21,22] (by subst hI;simp only [go_sem]) (by subst hI;simp only [go_sem]) ?_;have hJ1:=fun z=>hJ0 z ⟨I+1,ω⟩;subst hI;simp only [go_sem];exact lX 11 (hJ1 _ (by dsimp only;omega)) (by refine⟨rfl,by simp,?_,?_,?_,?_⟩<;>first|rfl|exact trivial|(simp only [go_sem];done)|(simp only [go_sem];rfl))
 obtain rfl:i=4:=ω;dsimp only;rw [yfa];refine aA ?_;refine xbd xzv [3,4,6,7,8,9,10] ?_;exact fP
end Go.Proofs.YthmjocibdepahaaGreat
