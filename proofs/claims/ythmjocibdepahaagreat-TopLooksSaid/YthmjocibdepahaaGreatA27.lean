import Derived.Test.YthmjocibdepahaaGreatA54
import Derived.Test.YthmjocibdepahaaGreatA13
set_option linter.defProp false
set_option linter.unusedSimpArgs false
set_option linter.unusedVariables false
set_option maxHeartbeats 64000000
set_option maxRecDepth 100000
namespace Go.Proofs.YthmjocibdepahaaGreat
open Go Go.RowKit Rdn Rdn.Dp
def xcv:=zcs 137
abbrev yal (m:PMach):V:=.agg [dQ false m.lay,iU true m.mem,.sl true 8 (m.thr.map (dW true))]
abbrev ysv (q:Request):V:=.agg [.int .i64 q.thread,.int .i64 q.stop,.int .i64 q.trap,.int .i64 q.count,.int .i64 q.pc,.int .i64 q.call,.sl true 4 (q.args.map aS),.sl true 4 (q.data.map aS)]
abbrev xh6 (m:PMach):V:=.agg [dQ false m.lay,iU true m.mem,.own 4 0]
abbrev zM:V:=.agg [.agg [.nilS,.int .u16 0],.agg [.nilS,.nilS],.nilS]
abbrev zQ:V:=.agg [.int .i64 0,.int .i64 0,.int .i64 0,.int .i64 0,.int .i64 0,.int .i64 0,.nilS,.nilS]
theorem xxw {m:PMem} (h:nJ m) {addr:Int} (h0:0≤addr) (h1:addr<512):iW (tJ m addr):=by
 obtain⟨k1,k2,k3,k4⟩:=h;have hl:=k4 (addr / 4 % 4).toNat ω;unfold tJ;dsimp only;by_cases c:m.lines[(addr / 4 % 4).toNat]!.tag=addr / 4
 ·rw [if_pos c]
  unfold lF at hl;rw [if_neg ω] at hl;exact mG hl.2.2.2.2 ω
 ·rw [if_neg c]
  exact mG k3 ω
theorem xvm (σ:AS) (l:List PThr):(l.map (dW true)).map (yH σ)=l.map (dW false):=by
 rw [List.map_map];exact List.map_congr_left fun x _=>by simp only [Function.comp,yH,V.low,V.lows,uC]
theorem xvn (σ:AS) (l:List PThr):∀y∈l.map (dW true),xas σ y:=by
 intro y hy;obtain⟨x,-,rfl⟩:=List.mem_map.1 hy;rfl
theorem xg1 {P:V→Prop} {a b c:V} (h1:P a) (h2:P b) (h3:P c):∀y∈[a,b,c],P y:=by
 intro y hy;simp at hy;rcases hy with rfl|rfl|rfl
 ·exact h1
 ·exact h2
 ·exact h3
theorem yek (p:PProg) (m:PMach) (h:okMach p 1099511627776 m) (t:Nat) (ht:t<4) (n:Int) (hn:1≤n∧n≤64) (hs:m.thr[t]!.state=1):Fnc Tryz.prog 137 [dM false p,eG false m,.int .i64 t,.int .i64 n] (fun x obs=>x=.tup [yal (uV p m t n).1,ysv (uV p m t n).2,.int .i64 0]∧obs=[]):=by
 have fs:=yuw p m h t ht n hn hs;have ok:=ye4 h ht hn.1;have hcq:=ye3 h ht hn.1;have hlay:(vU p m t n).1.lay=m.lay:=yuz p m t n;unfold uV;rw [←hlay] at fs;generalize vU p m t n=Z at fs ok hcq⊢;obtain⟨g,s⟩:=Z;dsimp only at fs ok hcq⊢;clear hlay;obtain⟨hr,s0,s1,rl,pc0,pc1,cn0,cn1,-⟩:=mP ok ht;have gn:=ok.n;by_cases c2:s=2
 ·subst c2
  rw [show xcb p g t 2=(g,⟨t,2,g.thr[t]!.trap,g.thr[t]!.count,g.thr[t]!.pc,0,[],[]⟩) by unfold xcb;exact if_pos rfl];refine aI xcv fun W S=>?_;refine dD (fs) ?_;refine lZ 3 6 104 4 rfl rfl δ rfl ?_;refine lZ 3 7 104 4 rfl rfl δ rfl ?_;exact aU xcv
 by_cases c1:s=1;rotate_left
 ·rw [show xcb p g t s=(g,⟨t,s,0,g.thr[t]!.count,g.thr[t]!.pc,0,[],[]⟩) by unfold xcb;rw [if_neg c2,if_neg c1]]
  refine aI xcv fun W S=>?_;refine dD (fs) ?_;refine lZ 3 6 104 4 rfl rfl δ rfl ?_;refine lZ 3 7 104 4 rfl rfl δ rfl ?_;exact aU xcv
 subst c1;obtain⟨q1,q2,q3,q4⟩:=hcq rfl;dsimp only at q1 q2 q3 q4;have hcr:=xu9 ok.prog q1 q2 q3;have fc:=yhf p g ok t ht q1 q2 hcr;by_cases hc:uN p g.lay g.thr[t]! =0;rotate_left
 ·rw [show xcb p g t 1=(g.setT t (xbr g.thr[t]! (uN p g.lay g.thr[t]!) 0),⟨t,2,uN p g.lay g.thr[t]!,g.thr[t]!.count,g.thr[t]!.pc,0,[],[]⟩) by unfold xcb;rw [if_neg c2,if_pos rfl,if_pos hc]]
  generalize uN p g.lay g.thr[t]! =why at fc hc⊢;have fe:=yel g.thr[t]! rl why 0;have hset:(g.thr.set t (xbr g.thr[t]! why 0)).map (dW true)=(g.thr.map (dW true)).set t (dW true (xbr g.thr[t]! why 0)):=List.map_set;refine aI xcv fun W S=>?_;refine dD (fs) ?_;refine xhv fc ⟨rfl,xg1 (by show xdq _ (dM false p);exact xg1 rfl rfl rfl) (by show xdq _ (xh6 g);exact xg1 rfl rfl ⟨rfl,xvn _ _⟩) rfl,?_,rfl,rfl,?_⟩
  ·show [xA _ (dM false p),xA _ (xh6 g),xA _ (.int .i64 (t:Int))]=_
   simp only [xA,dp2,List.map_cons,List.map_nil,V.low,V.lows,uC,gG,List.getElem?_cons_succ,List.getElem?_cons_zero,if_true,xvm]
  simp only [go_sem];refine aA ?_;refine aF (fe) ?_;refine lZ 3 6 104 4 rfl rfl δ rfl ?_;refine lZ 3 7 104 4 rfl rfl δ rfl ?_;simp only [PMach.setT,yal,hset];exact aU xcv
 rw [show xcb p g t 1=(g,⟨t,1,0,g.thr[t]!.count,g.thr[t]!.pc,oZ p g.thr[t]!,uY p g.lay g.thr[t]! (kl (oZ p g.thr[t]!)).length,if iO (oZ p g.thr[t]!)=1 then wZ p g g.thr[t]! g.thr[t]!.regs[2]!.val.toNat else []⟩) by unfold xcb;rw [if_neg c2,if_pos rfl,if_neg (not_not_intro hc)]];rw [hc] at fc;have hv2:=(mG hr (k:=2) ω).2.2;have hdat:iO (oZ p g.thr[t]!)=1→0≤g.thr[t]!.regs[1]!.val∧g.thr[t]!.regs[1]!.val+g.thr[t]!.regs[2]!.val≤512∧0≤g.thr[t]!.regs[2]!.val∧g.thr[t]!.regs[2]!.val≤16:=by
  intro hb;unfold uN at hc;split at hc
  ·cases hc
  ·rename_i e1
   split at hc
   ·cases hc
   ·rename_i e2
    have w:(yA g.lay p.sizes g.thr[t]!.regs[1]! g.thr[t]!.regs[2]!.val).2=0:=Classical.byContradiction fun q=>e2 ⟨ω,.inl q⟩;have w2:¬16<g.thr[t]!.regs[2]!.val:=fun q=>e2 ⟨ω,.inr q⟩;have w3:=yfj ok.lay w;omega
 clear hc;obtain⟨c,hc0⟩:∃c,oZ p g.thr[t]! =c:=⟨_,rfl⟩;rw [hc0] at hcr hdat⊢;have hcs:p.code[(g.thr[t]!.pc-1).toNat]!.imm=c:=hc0;have fa:=xts c hcr.1 hcr.2;have fb:=xO c hcr.1 hcr.2;have hk3:=xdx c;have hcl:=ok.prog.c2;clear hc0;have hz:uY p g.lay g.thr[t]! 0=[]:=rfl
 ·skip
  refine aI xcv fun W S=>?_;refine dD (fs) ?_;refine xhv fc ⟨rfl,xg1 (by show xdq _ (dM false p);exact xg1 rfl rfl rfl) (by show xdq _ (xh6 g);exact xg1 rfl rfl ⟨rfl,xvn _ _⟩) rfl,?_,rfl,rfl,?_⟩
  ·show [xA _ (dM false p),xA _ (xh6 g),xA _ (.int .i64 (t:Int))]=_
   simp only [xA,dp2,List.map_cons,List.map_nil,V.low,V.lows,uC,gG,List.getElem?_cons_succ,List.getElem?_cons_zero,if_true,xvm]
  simp only [go_sem];refine aY hcs ?_;refine aF (fa) ?_;refine lZ 7 6 104 4 rfl rfl δ rfl ?_;refine gY [4,8,9,11,14,15,80] (fun q:{q:Nat // q≤(kl c).length}=>[(81,.int .i64 q.1)]) (fun q=>[⟨.box false 30,true,0,dM false p⟩,⟨.box false 40,true,0,eG false m⟩,⟨.box false 40,true,0,zM⟩,⟨.box false 241,true,0,zQ⟩,⟨.row 113,true,0,.arr 8 (g.thr.map (dW true))⟩,⟨.box false 40,true,0,xh6 g⟩,⟨.box false 113,true,0,dW true g.thr[t]!⟩,⟨.box false 241,true,0,.agg [.int .i64 t,.int .i64 1,.int .i64 0,.int .i64 g.thr[t]!.count,.int .i64 g.thr[t]!.pc,.int .i64 c,.own 8 q.1,.nilS]⟩,⟨.row 104,true,q.1,.arr 4 ((uY p g.lay g.thr[t]! q.1).map aS)⟩]) (fun q=>(kl c).length-q.1) (⟨0,by simp⟩) 9 τ ?_ (by first|rfl|(simp only [go_sem];done)|(simp only [go_sem];simp [hz];done)) ξ φ φ (by first|rfl|(simp only [go_sem];done)|(simp only [hz];(try simp only [go_sem]);first|done|rfl)) ?_
  ·(simp only [go_sem];(try simp [hz]);done)
  intro J hJ
  rintro⟨k,hk0⟩
  by_cases hlt:k<(kl c).length
  ·have fcan:=xkc g.lay p.sizes g.thr[t]!.regs[k]! ok.lay (mG hr ω)
   have hal:=xo1 p g.lay g.thr[t]! k;have hsn:(uY p g.lay g.thr[t]! (k+1)).map aS=(uY p g.lay g.thr[t]! k).map aS++[aS (jD g.lay p.sizes g.thr[t]!.regs[k]!)]:=by rw [yg4,List.map_append];rfl
   refine aA ?_;refine aF (fcan) ?_;exact lX 9 (hJ _ (⟨k+1,hlt⟩) (by dsimp only;omega)) (by refine⟨rfl,by simp,?_,?_,?_,?_⟩<;>first|rfl|exact trivial|(simp only [go_sem];done)|(simp only [hsn];rfl)|(simp only [hsn];simp only [go_sem];done)|(simp only [go_sem];simp only [hsn];rfl)|(simp only [go_sem];(repeat' (refine And.intro ?_ ?_))<;>first|exact trivial|rfl))
  obtain rfl:k=(kl c).length:=ω;by_cases hb:iO c=1;rotate_left
  ·rw [if_neg hb]
   refine aA ?_;refine aF (fb) ?_;refine lZ 3 7 104 4 rfl rfl δ rfl ?_;exact aU xcv
  obtain⟨w0,w1,w2,w3⟩:=hdat hb;rw [hb] at fb;rw [if_pos hb];obtain⟨K,hK⟩:∃K:Nat,g.thr[t]!.regs[2]!.val=K:=⟨g.thr[t]!.regs[2]!.val.toNat,ω⟩;rw [hK,Int.toNat_natCast];have hz2:wZ p g g.thr[t]! 0=[]:=rfl;refine aA ?_;refine aF (fb) ?_;refine lZ 7 7 104 4 rfl rfl δ rfl ?_;refine gY [4,8,9,11,14,15,109] (fun q:{q:Nat // q≤K}=>[(110,.int .i64 q.1)]) (fun q=>[⟨.box false 30,true,0,dM false p⟩,⟨.box false 40,true,0,eG false m⟩,⟨.box false 40,true,0,zM⟩,⟨.box false 241,true,0,zQ⟩,⟨.row 113,true,0,.arr 8 (g.thr.map (dW true))⟩,⟨.box false 40,true,0,xh6 g⟩,⟨.box false 113,true,0,dW true g.thr[t]!⟩,⟨.box false 241,true,0,.agg [.int .i64 t,.int .i64 1,.int .i64 0,.int .i64 g.thr[t]!.count,.int .i64 g.thr[t]!.pc,.int .i64 c,.own 8 (kl c).length,.own 9 q.1]⟩,⟨.row 104,true,(kl c).length,.arr 4 ((uY p g.lay g.thr[t]! (kl c).length).map aS)⟩,⟨.row 104,true,q.1,.arr 4 ((wZ p g g.thr[t]! q.1).map aS)⟩]) (fun q=>K-q.1) (⟨0,by simp⟩) 10 τ ?_ (by first|rfl|(simp only [go_sem];done)|(simp only [go_sem];simp [hz2,hK];done)) ξ φ φ (by first|rfl|(simp only [go_sem];done)|(simp only [hz2,hK];(try simp only [go_sem]);first|done|rfl)) ?_
  ·(simp only [go_sem];(try simp [hz2,hK]);done)
  intro J hJ
  rintro⟨k,hk0⟩
  by_cases hlt:k<K
  ·have flk:=xxv g.mem ok.mem (g.thr[t]!.regs[1]!.val+k) ω ω
   have fcan:=xkc g.lay p.sizes (tJ g.mem (g.thr[t]!.regs[1]!.val+k)) ok.lay (xxw ok.mem ω ω);have hal:=xv4 p g g.thr[t]! k;have hsn:(wZ p g g.thr[t]! (k+1)).map aS=(wZ p g g.thr[t]! k).map aS++[aS (jD g.lay p.sizes (tJ g.mem (g.thr[t]!.regs[1]!.val+k)))]:=by rw [yin,List.map_append];rfl
   refine aA ?_;refine jC flk fcan ?_;exact lX 10 (hJ _ (⟨k+1,hlt⟩) (by dsimp only;omega)) (by refine⟨rfl,by simp,?_,?_,?_,?_⟩<;>first|rfl|exact trivial|(simp only [go_sem];done)|(simp only [hsn];rfl)|(simp only [hsn];simp only [go_sem];done)|(simp only [go_sem];simp only [hsn];rfl)|(simp only [go_sem];(repeat' (refine And.intro ?_ ?_))<;>first|exact trivial|rfl))
  obtain rfl:k=K:=ω;refine aA ?_;exact aU xcv
end Go.Proofs.YthmjocibdepahaaGreat
