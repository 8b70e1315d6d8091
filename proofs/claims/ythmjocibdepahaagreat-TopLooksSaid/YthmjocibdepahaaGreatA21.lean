import Derived.Test.YthmjocibdepahaaGreatA20
import Derived.Test.YthmjocibdepahaaGreatA13
set_option linter.defProp false
set_option linter.unusedSimpArgs false
set_option linter.unusedVariables false
set_option maxHeartbeats 64000000
set_option maxRecDepth 100000
namespace Go.Proofs.YthmjocibdepahaaGreat
open Go Go.RowKit Rdn Rdn.Dp
def xys:=aC 136
def xqy:=aC 207
def yo5:=aC 205
instance (m:PMach) (t:Nat):Decidable (xck m t):=by unfold xck;exact inferInstance
theorem xue (m:PMach) (hn:m.thr.length=4) (t:Nat) (ht:t<4):Fnc Tryz.prog 135 [eG false m,.int .i64 t] (fun x obs=>x=.bool (decide (xck m t))∧obs=[]):=by
 by_cases h1:m.thr[t]!.state=1;rotate_left
 ·rw [aJ (fun q=>h1 q.1)]
  exact aZ xlj
 by_cases h2:m.thr[t]!.handler=-1
 ·rw [aJ (fun q=>q.2.1 h2)]
  exact aZ xlj
 by_cases h3:m.thr[t]!.saved=-1
 ·rw [aN ⟨h1,h2,h3⟩]
  exact aZ xlj
 ·rw [aJ (fun q=>h3 q.2.2)]
  exact aZ xlj
theorem yiz (p:PProg) (m:PMach) {C:Int} (h:okMach p C m) (t:Nat) (ht:t<4) (hc:xck m t):Fnc Tryz.prog 136 [eG false m,.int .i64 t] (fun x obs=>x=.tup [eG true (zD m t),.bool true]∧obs=[]):=by
 have fc:=xnw m h;have fn:=xue m h.n t ht;rw [aN hc] at fn;have okl:=h.mem.2.1;have okn:=h.n;have okn2:(zD m t).thr.length=4:=by simp [zD,PMach.setT,okn]
 simp only [eG,iU,rE (dW true) okn2,rE (iM true) (show(zD m t).mem.lines.length=4 from okl)];obtain⟨lay,mem,thr⟩:=m;obtain⟨x0,x1,x2,x3,rfl⟩:=gQ okn;have hi:t=0∨t=1∨t=2∨t=3:=ω;rcases hi with rfl|rfl|rfl|rfl
 all_goals
  simp only [zD,PMach.setT,List.getElem!_cons_zero,List.getElem!_cons_succ,List.set_cons_zero,List.set_cons_succ];simp only [iE,bP,eQ,List.getElem!_cons_zero,List.getElem!_cons_succ] at fc;refine aI xys fun W S=>?_;refine dD (fc) ?_;refine aF (fn) ?_;refine gX 3 0 2 5 rfl rfl rfl rfl ?_;refine aK ?_;refine gX 3 1 2 6 rfl rfl rfl rfl ?_;refine aK ?_;refine gX 3 2 2 7 rfl rfl rfl rfl ?_;refine aK ?_;refine gX 3 3 2 8 rfl rfl rfl rfl ?_;refine aK ?_;refine gX 4 0 1 9 rfl rfl rfl rfl ?_;refine aK ?_;refine gX 4 1 1 10 rfl rfl rfl rfl ?_;refine aK ?_;refine gX 4 2 1 11 rfl rfl rfl rfl ?_;refine aK ?_;refine gX 4 3 1 12 rfl rfl rfl rfl ?_;refine aK ?_;refine fG 3 rfl (by rfl) ?_;refine aK ?_;refine fG 4 rfl (by rfl) ?_;refine aK ?_;exact aU xys
theorem xs8 (x:Rdn.Result) (h1:iH x.value=true) (h2:fD x.data 16=true) (h3:-1≤x.spawn∧x.spawn<4):Fnc Tryz.prog 205 [eX x] (fun y obs=>y=.bool true∧obs=[]):=by
 have f1:=yce x.value;have f2:=xea x.data 16;rw [h1] at f1;rw [h2] at f2;exact zG2 yo5 f1 f2
theorem yxk (p:PProg) (m:PMach) (h:okMach p 1099511627776 m) (t:Nat) (ht:t<4) (hs:m.thr[t]!.state=3) (x:Rdn.Result) (h1:iH x.value=true) (h2:fD x.data 16=true) (h3:-1≤x.spawn∧x.spawn<4) (hr:(iD m.lay p.sizes x.value).2=0):Fnc Tryz.prog 207 [dM false p,eG false m,.int .i64 t,eX x] (fun y obs=>y=.tup [eG true (m.setT t (kT m.thr[t]! (iD m.lay p.sizes x.value).1)),.bool true]∧obs=[]):=by
 have fv:=xm7 p m h;have fr:=xs8 x h1 h2 h3;have fw:=xfe m.lay p.sizes x.value h.lay;rw [hr] at fw;generalize (iD m.lay p.sizes x.value).1=c at fw⊢;have fc:=xnw m h;have okl:=h.mem.2.1;have okn:=h.n;have hrl:=(mP h ht).2.2.2.1;have okn2:(m.setT t (kT m.thr[t]! c)).thr.length=4:=by simp [PMach.setT,okn]
 simp only [eG,iU,rE (dW true) okn2,rE (iM true) (show(m.setT t (kT m.thr[t]! c)).mem.lines.length=4 from okl)];clear h hr;obtain⟨lay,mem,thr⟩:=m;obtain⟨x0,x1,x2,x3,rfl⟩:=gQ okn;have hi:t=0∨t=1∨t=2∨t=3:=ω;rcases hi with rfl|rfl|rfl|rfl
 all_goals
  simp only [kT,iQ,PMach.setT,List.getElem!_cons_zero,List.getElem!_cons_succ,List.set_cons_zero,List.set_cons_succ] at hs hrl⊢;simp only [iE,bP,eQ,List.getElem!_cons_zero,List.getElem!_cons_succ] at fc;refine zH3 xqy fv fr fw fun W S=>?_;refine dD (fc) ?_;refine gX 6 0 2 8 rfl rfl rfl rfl ?_;refine aK ?_;refine gX 6 1 2 9 rfl rfl rfl rfl ?_;refine aK ?_;refine gX 6 2 2 10 rfl rfl rfl rfl ?_;refine aK ?_;refine gX 6 3 2 11 rfl rfl rfl rfl ?_;refine aK ?_;refine gX 7 0 1 12 rfl rfl rfl rfl ?_;refine aK ?_;refine gX 7 1 1 13 rfl rfl rfl rfl ?_;refine aK ?_;refine gX 7 2 1 14 rfl rfl rfl rfl ?_;refine aK ?_;refine gX 7 3 1 15 rfl rfl rfl rfl ?_;refine aK ?_;refine fG 6 rfl (by rfl) ?_;refine aK ?_;refine fG 7 rfl (by rfl) ?_;refine aK ?_;refine ret xqy [] ?_;(first|(simp only [go_sem];done)|(simp only [go_sem];((try dsimp only);(repeat' (refine And.intro ?_ ?_))<;>first|with_reducible rfl|(simp only [go_sem];done)|(simp only [go_sem];rfl)|(simp only [go_sem,List.map_set];done)|(simp only [List.map_set];(try simp only [go_sem]);first|done|rfl)|(simp only [go_sem];simp [List.map_set];done)|(simp [List.map_set];done)|rfl)))
def xyv:=aC 75
def xzf:=aC 168
def ya2:=aC 125
theorem ln0:SubV (.agg [.int .i64 (-1),.bool false,.nilS]) (iM true ⟨-1,false,[]⟩):=SubV.agg ⟨SubV.refl _,SubV.refl _,SubV.nil _ _,trivial⟩
theorem xw0:Fnc Tryz.prog 75 [] (fun x obs=>x=.sl true 3 (emptyL.map (iM true))∧obs=[]):=by
 refine aI xyv fun W S=>?_;refine fU 5 ?_;refine aA ?_;refine xds 0 (emptyL.map (iM true)) rfl ⟨ln0,ln0,ln0,ln0,trivial⟩ (bV _ _) (mQ (f:=iM true) (fun _=>rfl) _) ?_;exact aU xyv
theorem yn1 {bs:List Int} {ds:List (List Int)} {k:Nat} (hk:k<ds.length) (hl:bs.length=ds.length) (c:List Cell):xb2 c (bs.drop k) (ds.drop k)=xb2 (ldW c bs[k]! ds[k]!) (bs.drop (k+1)) (ds.drop (k+1)):=by
 rw [List.drop_eq_getElem_cons (show k<bs.length by omega),List.drop_eq_getElem_cons hk];simp only [xb2];simp [hk,show k<bs.length by omega]
theorem yn2 {bs:List Int} {ds:List (List Int)} (hl:bs.length=ds.length) (c:List Cell):xb2 c (bs.drop ds.length) (ds.drop ds.length)=c:=by
 rw [List.drop_eq_nil_of_le ω,List.drop_length];simp only [xb2]
theorem yn3 {d:List Int} {k:Nat} (hk:k<d.length) (c:List Cell) (b:Int):ldW c b (d.drop k)=ldW (c.set b.toNat ⟨c[b.toNat]!.tag,d[k]!⟩) (b+1) (d.drop (k+1)):=by
 rw [List.drop_eq_getElem_cons hk];simp only [ldW];simp [hk]
theorem yx3 {l:List Cell} {k:Nat} (v:Int):(l.map bC).set k (.agg [.int .u8 l[k]!.tag,.int .u16 v])=(l.set k ⟨l[k]!.tag,v⟩).map bC:=by
 rw [List.map_set]
theorem ycq (n:Nat):(List.replicate n c0).map bC=List.replicate n (.agg [.int .u8 0,.int .u16 0]):=by rw [List.map_replicate];rfl
attribute [-simprocAttr] List.reduceReplicate
attribute [-go_sem] List.replicate_succ
theorem ycp {α:Type} (a:α):List.replicate 2 a=[a,a]:=rfl
attribute [go_sem] ycp
theorem yp1 (p:PProg) (l:PLay) (hp:okProg p) (h:jW l p.sizes):Fnc Tryz.prog 168 [dM false p,dQ false l] (fun x obs=>x=.tup [iU true (xin p l),.int .i64 0]∧obs=[]):=by
 have fv:=xlb l p.sizes h;have fe:=xw0;have hb:=h.2.1;have fV:=hp.dl;have hs4:=hp.sz.2.2;have hbl:l.bases.length=p.data.length:=ω;have hcr:(List.replicate 512 c0).map bC=List.replicate 512 (.agg [.int .u8 0,.int .u16 0]):=ycq 512;refine uK xzf fun W S=>?_;refine bZ (fv) ?_;refine qL ?_;refine iL (fu:=oM) aT [0] 2 rfl κ ?_;simp only [go_sem]
 repeat(first|refine And.intro ω ?_|refine And.intro rfl ?_|refine gJ rfl rfl ?_|refine bY ?_|refine dI κ ?_|(simp (disch:=omega) only [fJ,Nat.min_eq_left,Nat.min_eq_right,if_pos,if_neg,fF,bW,dU,fH,fM,fK,aN,aJ,dB,dA,dP,dO,Int.toNat_natCast];try simp only [go_sem])|(refine dR rfl ?_ ?_;·(simp<;>omega))|(refine dZ rfl ?_ ?_;·(simp<;>omega))|((first|refine fQ ?_|refine gK rfl ?_|refine sQ [0] rfl ?_|refine jJ aT rfl κ ?_|refine jK aT rfl κ ?_|refine jL aT rfl κ ?_);simp only [go_sem]))
 refine aF (fe) ?_;rw [←hcr];refine bI [2,3,4,6,30,31] (fun q:{q:Nat×List Cell // q.1≤p.data.length∧q.2.length=512∧xb2 (List.replicate 512 c0) l.bases p.data=xb2 q.2 (l.bases.drop q.1) (p.data.drop q.1)}=>[(32,.int .i64 q.1.1)]) (fun q=>[⟨.box false 30,true,0,dM false p⟩,⟨.box false 33,true,0,dQ false l⟩,⟨.box false 37,true,0,.agg [.nilS,.nilS]⟩,⟨.row 117,true,1,.arr 2 (q.1.2.map bC)⟩,⟨.box false 37,true,1,.agg [.own 3 1,.sl true 3 (emptyL.map (iM true))]⟩]) (fun q=>p.data.length-q.1.1) (⟨(0,List.replicate 512 c0),by simp,by simp,rfl⟩) 5 ?_;intro J hJ
 rintro⟨⟨k,B⟩,hk0,hBl,hB⟩
 dsimp only at hk0 hBl hB;by_cases hlt:k<p.data.length
 ·have hdat:=hp.dat k ω
  have hbas:=h.2.2 k ω;have hsz:¬(p.sizes[k]!<(p.data[k]!.length:Int)):=ω;rw [yn1 hlt hbl] at hB;obtain⟨D,hD⟩:∃D,p.data[k]! =D:=⟨_,rfl⟩;have hD2:p.data[k]=D:=by rw [←hD];simp [hlt]
  rw [hD] at hB hdat;have hsz':¬((p.data[k]!.length:Int)>p.sizes[k]!):=by rw [hD];omega
  refine aA ?_;simp only [hD];have hJo:=hJ;refine gY [2,3,4,6,7,30,31,32,46,47] (fun q:{q:Nat×List Cell // q.1≤D.length∧q.2.length=512∧ldW B l.bases[k]! D=ldW q.2 (l.bases[k]!+(q.1:Int)) (D.drop q.1)}=>[(48,.int .i64 q.1.1)]) (fun q=>[⟨.box false 30,true,0,dM false p⟩,⟨.box false 33,true,0,dQ false l⟩,⟨.box false 37,true,0,.agg [.nilS,.nilS]⟩,⟨.row 117,true,1,.arr 2 (q.1.2.map bC)⟩,⟨.box false 37,true,1,.agg [.own 3 1,.sl true 3 (emptyL.map (iM true))]⟩]) (fun q=>D.length-q.1.1) (⟨(0,B),by simp,hBl,by simp⟩) 5 τ ?_ (by first|rfl|(simp only [go_sem];done)|(simp only [go_sem];simp [hD];done)) ξ φ φ (by first|rfl|(simp only [go_sem];done)|(simp only [hD];(try simp only [go_sem]);first|done|rfl)) ?_
  ·(simp only [go_sem];(try simp [hD]);done)
  intro J hJ
  rintro⟨⟨j,C⟩,hj0,hCl,hC⟩
  dsimp only at hj0 hCl hC;by_cases hlj:j<D.length
  ·rw [yn3 hlj] at hC
   have hsn:(C.set (l.bases[k]!+(j:Int)).toNat ⟨C[(l.bases[k]!+(j:Int)).toNat]!.tag,D[j]!⟩).map bC=(C.map bC).set (l.bases[k]!+(j:Int)).toNat (.agg [.int .u8 C[(l.bases[k]!+(j:Int)).toNat]!.tag,.int .u16 D[j]!]):=(yx3 _).symm;refine aA ?_;exact lX 5 (hJ _ (⟨(j+1,C.set (l.bases[k]!+(j:Int)).toNat ⟨C[(l.bases[k]!+(j:Int)).toNat]!.tag,D[j]!⟩),hlj,by rw [List.length_set];exact hCl,by rw [hC];congr 1;dsimp only;omega⟩) (by dsimp only;omega)) (by refine⟨rfl,by simp,?_,?_,?_,?_⟩<;>first|rfl|exact trivial|(simp only [go_sem];done)|(simp only [go_sem];(repeat' (refine And.intro ?_ ?_))<;>first|exact trivial|rfl))
  obtain rfl:j=D.length:=ω;rw [List.drop_length] at hC;simp only [ldW] at hC;rw [hC] at hB;refine aA ?_;exact lX 5 (hJo _ (⟨(k+1,C),hlt,hCl,hB⟩) (by dsimp only;omega)) (by refine⟨rfl,by simp,?_,?_,?_,?_⟩<;>first|rfl|exact trivial|(simp only [go_sem];done)|(simp only [go_sem];(repeat' (refine And.intro ?_ ?_))<;>first|exact trivial|rfl))
 obtain rfl:k=p.data.length:=ω;rw [yn2 hbl] at hB;have hml:iU true (xin p l)=.agg [.sl true 2 (B.map bC),.sl true 3 (emptyL.map (iM true))]:=by rw [←hB];rfl
 rw [hml];refine aA ?_;exact aU xzf
end Go.Proofs.YthmjocibdepahaaGreat
namespace Go.Proofs.YthmjocibdepahaaGreat
open Go Go.RowKit Rdn Rdn.Dp
def xz6:=aC 129
theorem ywf:Fnc Tryz.prog 237 [] (fun x obs=>x=eQ 0 thr0∧obs=[iE (List.replicate 8 c0)]):=by
 have hz:(List.replicate 8 c0).map bC=List.replicate 8 (V.agg [.int .u8 0,.int .u16 0]):=by rw [List.map_replicate];rfl
 simp only [iE,hz];refine aI ya7 fun W S=>?_;refine ret ya7 [1] ?_;exact fP
def ypc (pc:Int) (c:Cell):PThr:={thr0 with state:=1,regs:=thr0.regs.set 0 c,pc:=pc}
theorem yne:Fnc Tryz.prog 129 [] (fun x obs=>x=nU true lk0∧obs=[]):=by
 refine uK xz6 fun W S=>?_;refine iL (fu:=oM) aT [0,1] 3 rfl κ ?_;simp only [go_sem]
 repeat(first|refine And.intro ω ?_|refine And.intro rfl ?_|refine gJ rfl rfl ?_|refine bY ?_|refine dI κ ?_|(simp (disch:=omega) only [fJ,Nat.min_eq_left,Nat.min_eq_right,if_pos,if_neg,fF,bW,dU,fH,fM,fK,aN,aJ,dB,dA,dP,dO,Int.toNat_natCast];try simp only [go_sem])|(refine dR rfl ?_ ?_;·(simp<;>omega))|(refine dZ rfl ?_ ?_;·(simp<;>omega))|((first|refine fQ ?_|refine gK rfl ?_|refine sQ [0,1] rfl ?_|refine jJ aT rfl κ ?_|refine jK aT rfl κ ?_|refine jL aT rfl κ ?_);simp only [go_sem]))
 refine xds 2 [.sl true 1 [],.sl true 1 [],.sl true 1 [],.sl true 1 []] rfl ⟨SubV.nil _ _,SubV.nil _ _,SubV.nil _ _,SubV.nil _ _,trivial⟩ rfl (by intro v hv;simp at hv;subst hv;rfl) ?_;refine fU 5 ?_;refine aA ?_;exact aU xz6
end Go.Proofs.YthmjocibdepahaaGreat
