import Derived.Test.YthmjocibdepahaaGreatA31
set_option linter.defProp false
set_option linter.unusedSimpArgs false
set_option linter.unusedVariables false
set_option maxHeartbeats 64000000
set_option maxRecDepth 100000
namespace Go.Proofs.YthmjocibdepahaaGreat
open Go Go.RowKit Rdn Rdn.Dp
def xz5:=aC 185
def qB (t:Int) (w:List Int):List Int:=w.filter fun x=>x !=t
def xK (t:Int) (l:List (List Int)) (k:Nat):List (List Int):=(l.map (qB t)).take k++l.drop k
theorem yot (t:Int) (l:List (List Int)):xK t l 0=l:=by simp [xK]
theorem yow (t:Int) (l:List (List Int)):xK t l l.length=l.map (qB t):=by
 unfold xK;rw [List.drop_length,List.append_nil];exact List.take_of_length_le ξ
theorem yox (t:Int) (l:List (List Int)) {k:Nat} (h:k≤l.length):(xK t l k).length=l.length:=by simp [xK];omega
theorem yov (t:Int) (l:List (List Int)) {k:Nat} (h:k<l.length):(xK t l k)[k]! =l[k]!:=by
 unfold xK;rw [List.getElem!_eq_getElem?_getD,List.getElem?_append_right (by simp;omega),List.getElem!_eq_getElem?_getD,List.getElem?_drop]
 congr 2
 simp;omega
theorem yoy (t:Int) (l:List (List Int)) {k:Nat} (h:k<l.length):(xK t l k).set k (qB t l[k]!)=xK t l (k+1):=by
 unfold xK;rw [List.set_append_right _ _ (by simp;omega),List.take_add_one];simp [h,Nat.min_eq_left (Nat.le_of_lt h)];rw [List.drop_eq_getElem_cons h];rfl
theorem yqq (t:Int) (w:List Int):(qB t w).length≤w.length:=List.length_filter_le _ _
theorem ybk {t:Int} {w:List Int} {j:Nat} (hj:j<w.length):qB t (w.take (j+1))=qB t (w.take j)++qB t [w[j]!]:=by
 unfold qB;rw [List.take_add_one,List.filter_append];simp [hj]
theorem yqo {t:Int} {w:List Int} {j:Nat} (hj:j<w.length) (h:w[j]! =t):qB t (w.take (j+1))=qB t (w.take j):=by
 rw [ybk hj,h];simp [qB]
theorem yqp {t:Int} {w:List Int} {j:Nat} (hj:j<w.length) (h:¬w[j]! =t):qB t (w.take (j+1))=qB t (w.take j)++[w[j]!]:=by
 rw [ybk hj]
 congr 1
 unfold qB;rw [List.filter_cons_of_pos (by simpa using h)];rfl
theorem ynd (l:PLocks) (h:okLk l) (t:Int):Fnc Tryz.prog 185 [nU false l,.int .i64 t] (fun x obs=>x=.tup [nU false (xI l t).1,.sl true 1 (bH (xI l t).2)]∧obs=[]):=by
 have fc:=xpz l h;have ho:=h.o;have hq:=h.q;have hz:=yot t l.queue;refine aI xz5 fun W S=>?_;refine dD (fc) ?_;refine gY [1,4,6,20,21] (fun q:{q:Nat // q≤4}=>[(22,.int .i64 q.1)]) (fun q=>[⟨.box false 97,true,0,nU false l⟩,⟨.box false 97,true,0,.agg [.nilS,.nilS]⟩,oD l.owner,xd8 (xK t l.queue q.1),⟨.box false 97,true,0,.agg [.own 2 0,.own 3 0]⟩]) (fun q=>4-q.1) (⟨0,ω⟩) 5 τ ?_ (by first|rfl|(simp only [go_sem];done)|(simp only [go_sem];simp [hz];done)) ξ φ φ (by first|rfl|(simp only [go_sem];done)|(simp only [hz];(try simp only [go_sem]);first|done|rfl)) ?_
 ·(simp only [go_sem];(try simp [hz]);done)
 intro J hJ
 rintro⟨k,hk0⟩
 have hml:=yox t l.queue (k:=k) ω;by_cases hlt:k<4
 ·have hat:=yov t l.queue (k:=k) ω
  refine aA ?_;simp only [hat];have hw4:l.queue[k]!.length≤4:=xc8 (h.qu _ (dJ ω));have hJo:=hJ;have hz0:qB t []=[]:=rfl;refine pW (i:=9) (e:=3) (s:=1) rfl δ ?_;refine gY [1,4,6,7,20,21,22,27,28] (fun q:{q:Nat // q≤l.queue[k]!.length}=>[(9,.own 5 (qB t (l.queue[k]!.take q.1)).length),(29,.int .i64 q.1)]) (fun q=>[⟨.box false 97,true,0,nU false l⟩,⟨.box false 97,true,0,.agg [.nilS,.nilS]⟩,oD l.owner,xd8 (xK t l.queue k),⟨.box false 97,true,0,.agg [.own 2 0,.own 3 0]⟩,⟨.row 3,true,(qB t (l.queue[k]!.take q.1)).length,.arr 1 (bH (qB t (l.queue[k]!.take q.1)))⟩]) (fun q=>l.queue[k]!.length-q.1) (⟨0,ω⟩) 6 τ ?_ (by first|rfl|(simp only [go_sem];done)|(simp only [go_sem];simp [hz0];done)) ξ φ φ (by first|rfl|(simp only [go_sem];done)|(simp only [hz0];(try simp only [go_sem]);first|done|rfl)) ?_
  ·(simp only [go_sem];(try simp [hz0]);done)
  intro J hJ
  rintro⟨j,hj0⟩
  by_cases hlj:j<l.queue[k]!.length
  ·have hle:=yqq t (l.queue[k]!.take j)
   have htl:(l.queue[k]!.take j).length≤4:=by rw [List.length_take];omega
   by_cases hne:l.queue[k]![j]! =t
   ·have hsn:=yqo (t:=t) hlj hne
    refine aA ?_;exact lX 6 (hJ _ (⟨j+1,hlj⟩) (by dsimp only;omega)) (by refine⟨rfl,by simp,?_,?_,?_,?_⟩<;>first|rfl|exact trivial|(simp only [go_sem];done)|(simp only [go_sem];simp only [hsn];rfl)|(simp only [hsn,List.length_append,List.length_cons,List.length_nil];done)|(simp only [hsn,List.length_append,List.length_cons,List.length_nil];rfl)|(simp only [go_sem];simp only [hsn,List.length_append,List.length_cons,List.length_nil];done)|(simp only [go_sem];simp only [hsn,List.length_append,List.length_cons,List.length_nil];rfl)|(simp only [go_sem];simp only [hsn,List.length_append,List.length_cons,List.length_nil];(repeat' (refine And.intro ?_ ?_))<;>first|exact trivial|rfl)|(simp only [go_sem];(repeat' (refine And.intro ?_ ?_))<;>first|exact trivial|rfl))
   ·have hsn:=yqp (t:=t) hlj hne
    refine aA ?_;exact lX 6 (hJ _ (⟨j+1,hlj⟩) (by dsimp only;omega)) (by refine⟨rfl,by simp,?_,?_,?_,?_⟩<;>first|rfl|exact trivial|(simp only [go_sem];done)|(simp only [go_sem];simp only [hsn];rfl)|(simp only [hsn,List.length_append,List.length_cons,List.length_nil];done)|(simp only [hsn,List.length_append,List.length_cons,List.length_nil];rfl)|(simp only [go_sem];simp only [hsn,List.length_append,List.length_cons,List.length_nil];done)|(simp only [go_sem];simp only [hsn,List.length_append,List.length_cons,List.length_nil];rfl)|(simp only [go_sem];simp only [hsn,List.length_append,List.length_cons,List.length_nil];(repeat' (refine And.intro ?_ ?_))<;>first|exact trivial|rfl)|(simp only [go_sem];(repeat' (refine And.intro ?_ ?_))<;>first|exact trivial|rfl))
  obtain rfl:j=l.queue[k]!.length:=ω;rw [List.take_length] at *;refine aA ?_;simp only [yoy t l.queue (show k<l.queue.length by omega)];exact lX 5 (hJo _ (⟨k+1,hlt⟩) (by dsimp only;omega)) (by refine⟨rfl,by simp,?_,?_,?_,?_⟩<;>first|rfl|exact trivial|(simp only [go_sem];done)|(simp only [go_sem];(repeat' (refine And.intro ?_ ?_))<;>first|exact trivial|rfl))
 obtain rfl:k=4:=ω;have hme:xK t l.queue 4=l.queue.map (qB t):=by rw [←hq];exact yow t l.queue
 rw [hme];refine aA ?_;refine xw7 4 0 2 rfl rfl rfl ?_;refine aK ?_;refine xw7 4 1 3 rfl rfl rfl ?_;refine aK ?_;refine pW (i:=12) (e:=3) (s:=1) rfl δ ?_;refine dS false [0,1,4,5] [1,4,6,12,49,50] χ χ ?_;simp only [go_sem];have hd0:xa1 l t 0=(xiq l t,[]):=rfl;have hlo:xiq l t=⟨l.owner,l.queue.map (qB t)⟩:=rfl;refine gY [1,4,6,49] (fun q:{q:Nat // q≤4}=>[(12,.own 3 0),(50,.int .i64 q.1)]) (fun q=>[⟨.box false 97,true,0,nU false l⟩,⟨.box false 97,true,0,.agg [.nilS,.nilS]⟩,⟨.box false 97,true,0,nU false (xa1 l t q.1).1⟩,⟨.row 3,true,0,.arr 1 (bH (xa1 l t q.1).2)⟩]) (fun q=>4-q.1) (⟨0,ω⟩) 4 τ ?_ (by first|rfl|(simp only [go_sem];done)|(simp only [go_sem];simp [hd0,hlo,qB];done)) ξ φ φ (by first|rfl|(simp only [go_sem];done)|(simp only [hd0,hlo,qB];(try simp only [go_sem]);first|done|rfl)) ?_
 ·(simp only [go_sem];(try simp [hd0,hlo,qB]);done)
 intro J hJ
 rintro⟨k,hk0⟩
 obtain⟨okk,hl2,hr2⟩:=xip h t k;by_cases hlt:k<4
 ·have fg:=xq2 _ okk k t
  have hs1:=xxs l t k;unfold xld at hs1;obtain⟨s,hs⟩:∃s,xa1 l t k=s:=⟨_,rfl⟩;rw [hs] at okk hl2 hr2 fg hs1;simp only [hs];generalize rW s.1 k t=G at fg hs1;obtain⟨l',o,b⟩:=G;dsimp only at fg hs1;cases b with
  |false=>
   rw [if_neg ξ] at hs1;refine aA ?_;refine aF (fg) ?_;refine dS false [0,1,2,3] [1,4,6,12,49,50] χ χ ?_;simp only [go_sem];exact lX 4 (hJ _ (⟨k+1,hlt⟩) (by dsimp only;omega)) (by refine⟨rfl,by simp,?_,?_,?_,?_⟩<;>first|rfl|exact trivial|(simp only [go_sem];done)|(simp only [hs1];rfl)|(simp only [hs1];simp only [go_sem];done)|(simp only [go_sem];simp only [hs1];rfl)|(simp only [go_sem];simp only [hs1,List.length_append,List.length_cons,List.length_nil];done)|(simp only [go_sem];simp only [hs1,List.length_append,List.length_cons,List.length_nil];rfl)|(simp only [go_sem];(repeat' (refine And.intro ?_ ?_))<;>first|exact trivial|rfl))
  |true=>
   by_cases h0:0≤o
   ·rw [if_pos ⟨rfl,h0⟩] at hs1
    have h0':o≥0:=h0;refine aA ?_;refine aF (fg) ?_;refine dS false [0,1,2,3] [1,4,6,12,49,50] χ χ ?_;simp only [go_sem];exact lX 4 (hJ _ (⟨k+1,hlt⟩) (by dsimp only;omega)) (by refine⟨rfl,by simp,?_,?_,?_,?_⟩<;>first|rfl|exact trivial|(simp only [go_sem];done)|(simp only [hs1];rfl)|(simp only [hs1];simp only [go_sem];done)|(simp only [go_sem];simp only [hs1];rfl)|(simp only [go_sem];simp only [hs1,List.length_append,List.length_cons,List.length_nil];done)|(simp only [go_sem];simp only [hs1,List.length_append,List.length_cons,List.length_nil];rfl)|(simp only [go_sem];(repeat' (refine And.intro ?_ ?_))<;>first|exact trivial|rfl))
   ·rw [if_neg (fun q=>h0 q.2)] at hs1
    have h0':¬o≥0:=h0;refine aA ?_;refine aF (fg) ?_;refine dS false [0,1,2,3] [1,4,6,12,49,50] χ χ ?_;simp only [go_sem];exact lX 4 (hJ _ (⟨k+1,hlt⟩) (by dsimp only;omega)) (by refine⟨rfl,by simp,?_,?_,?_,?_⟩<;>first|rfl|exact trivial|(simp only [go_sem];done)|(simp only [hs1];rfl)|(simp only [hs1];simp only [go_sem];done)|(simp only [go_sem];simp only [hs1];rfl)|(simp only [go_sem];simp only [hs1,List.length_append,List.length_cons,List.length_nil];done)|(simp only [go_sem];simp only [hs1,List.length_append,List.length_cons,List.length_nil];rfl)|(simp only [go_sem];(repeat' (refine And.intro ?_ ?_))<;>first|exact trivial|rfl))
 obtain rfl:k=4:=ω;unfold xI;refine aA ?_;exact aU xz5
def st0 (k:Nat):PThr:=if k=0 then {thr0 with state:=1} else thr0
def stL (k:Nat):List PThr:=(List.range k).map st0
theorem yvd (k:Nat):stL (k+1)=stL k++[st0 k]:=by
 unfold stL;rw [List.range_succ,List.map_append];rfl
theorem yvc (k:Nat):(stL k).length=k:=by simp [stL]
theorem yvl (p:PProg) (l:PLay) (hp:okProg p) (h:jW l p.sizes):Fnc Tryz.prog 125 [dM false p,dQ false l] (fun x obs=>x=.tup [eG true (xhh p l),.int .i64 0]∧obs=[]):=by
 have fk:=xoo p hp;have fv:=xlb l p.sizes h;have fm:=yp1 p l hp h;have hlb:=h.2.1;have hs4:=hp.sz.2.2;refine uK ya2 fun W S=>?_;refine bZ (fk) ?_;refine qL ?_;refine bZ (fv) ?_;refine qL ?_;refine bZ (fm) ?_;refine qL ?_;refine aA ?_;refine lZ 4 2 113 8 rfl rfl δ rfl ?_;refine aK ?_;refine bI [4,9] (fun q:{q:Nat // q≤4}=>[(38,.int .i64 q.1)]) (fun q=>[⟨.box false 30,true,0,dM false p⟩,⟨.box false 33,true,0,dQ false l⟩,⟨.box false 40,true,0,.agg [.agg [.nilS,.int .u16 0],.agg [.nilS,.nilS],.nilS]⟩,⟨.box false 37,true,0,iU true (xin p l)⟩,⟨.box false 40,true,1,.agg [dQ true l,iU true (xin p l),.own 5 q.1]⟩,⟨.row 113,true,q.1,.arr 8 ((stL q.1).map (dW true))⟩]) (fun q=>4-q.1) (⟨0,ω⟩) 6 ?_;intro J hJ
 rintro⟨k,hk0⟩
 by_cases hlt:k<4
 ·have hal:=yvc k
  have hz:(List.replicate 8 c0).map bC=List.replicate 8 (V.agg [.int .u8 0,.int .u16 0]):=by rw [List.map_replicate];rfl
  have hsn:(stL (k+1)).map (dW true)=(stL k).map (dW true)++[dW true (st0 k)]:=by rw [yvd,List.map_append];rfl
  rcases Nat.eq_zero_or_pos k with rfl|hpos
  ·refine aA ?_
   exact lX 6 (hJ _ (⟨0+1,hlt⟩) (by dsimp only;omega)) (by refine⟨rfl,by simp,?_,?_,?_,?_⟩<;>first|rfl|exact trivial|(simp only [go_sem];done)|(simp only [hsn];rfl)|(simp only [hsn];simp only [go_sem];done)|(simp only [go_sem];simp only [hsn];rfl)|(simp only [go_sem];(repeat' (refine And.intro ?_ ?_))<;>first|exact trivial|rfl))
  have hne:¬((k:Int)=0):=ω;rw [show st0 k=thr0 from if_neg ω] at hsn;refine aA ?_;exact lX 6 (hJ _ (⟨k+1,hlt⟩) (by dsimp only;omega)) (by refine⟨rfl,by simp,?_,?_,?_,?_⟩<;>first|rfl|exact trivial|(simp only [go_sem];done)|(simp only [hsn];rfl)|(simp only [hsn];simp only [go_sem];done)|(simp only [go_sem];simp only [hsn];rfl)|(simp only [go_sem];(repeat' (refine And.intro ?_ ?_))<;>first|exact trivial|rfl))
 obtain rfl:k=4:=ω;refine aA ?_;exact aU ya2
def xqo:=aC 127
theorem xtl {α:Type} [Inhabited α] {l:List α} {f:α→Bool} (h:∀j:Nat,j<l.length→f l[j]! =true):l.all f=true:=by
 rw [List.all_eq_true];intro x hx;obtain⟨j,hj,rfl⟩:=List.mem_iff_getElem.1 hx;have:=h j hj
 rwa [List.getElem!_eq_getElem?_getD,List.getElem?_eq_getElem hj] at this
theorem xtk {α:Type} [Inhabited α] {l:List α} {f:α→Bool} {j:Nat} (hj:j<l.length) (h:f l[j]! =false):l.all f=false:=by
 rw [List.all_eq_false];refine⟨l[j]!,?_,by rw [h];decide⟩;rw [List.getElem!_eq_getElem?_getD,List.getElem?_eq_getElem hj];exact List.getElem_mem hj
theorem xej {P:Nat→Prop} {k:Nat} (h:∀j,j<k→P j) (hk:P k):∀j,j<k+1→P j:=fun j hj=>(Nat.lt_succ_iff_lt_or_eq.1 hj).elim (h j) fun e=>e▸hk
def xh8 (s:List Int) (l:List Canon):Bool:=l.all (fun c=>decide (mJ s c))
def xfd (s:List Int) (d:List (List Canon)):Bool:=d.all (xh8 s)
theorem yri (s:List Int) (f:Rdn.Files) (h1:f.data.length≤1000000000) (h2:∀k:Nat,k<f.data.length→f.data[k]!.length≤1000000000):Fnc Tryz.prog 127 [.sl false 1 (bH s),lC f] (fun x obs=>x=.bool (xfd s f.data)∧obs=[]):=by
 obtain⟨d,op⟩:=f;dsimp only at h1 h2⊢;refine aI xqo fun W S=>?_;refine bI [0,10,11] (fun q:{q:Nat // q≤d.length∧∀j,j<q→xh8 s d[j]! =true}=>[(12,.int .i64 q.1)]) (fun _=>[⟨.box false 91,true,0,lC ⟨d,op⟩⟩]) (fun q=>d.length-q.1) (⟨0,by simp⟩) 1 ?_;intro J hJ
 rintro⟨k,hk0,hT⟩
 by_cases hlt:k<d.length
 ·have h3:=h2 k hlt
  refine aA ?_;have hJo:=hJ;refine bI [0,10,11,12,16,17] (fun q:{q:Nat // q≤d[k]!.length∧∀j,j<q→decide (mJ s d[k]![j]!)=true}=>[(18,.int .i64 q.1)]) (fun _=>[⟨.box false 91,true,0,lC ⟨d,op⟩⟩]) (fun q=>d[k]!.length-q.1) (⟨0,by simp⟩) 1 ?_;intro J hJ
  rintro⟨j,hj0,hU⟩
  by_cases hlj:j<d[k]!.length
  ·have fp:=xms s d[k]![j]!
   by_cases hp:mJ s d[k]![j]!
   ·rw [aN hp] at fp
    refine aA ?_;refine aF (fp) ?_;exact jH (hJ _ (⟨j+1,hlj,xej hU (aN hp)⟩) ψ) hlj
   ·rw [aJ hp] at fp
    have hL:xh8 s d[k]! =false:=xtk hlj (aJ hp);have hI:xfd s d=false:=xtk hlt hL;rw [hI];refine aA ?_;exact qV fp xqo
  obtain rfl:j=d[k]!.length:=ω;have hL:xh8 s d[k]! =true:=xtl hU;refine aA ?_;exact lX 1 (hJo _ (⟨k+1,hlt,xej hT hL⟩) (by dsimp only;omega)) (by refine⟨rfl,by simp,?_,?_,?_,?_⟩<;>first|rfl|exact trivial|(simp only [go_sem];done)|(simp only [go_sem];(repeat' (refine And.intro ?_ ?_))<;>first|exact trivial|rfl))
 obtain rfl:k=d.length:=ω;have hI:xfd s d=true:=xtl hT;rw [hI];refine aA ?_;exact aU xqo
theorem yn0 (l:PLocks) (h:okLk l):Fnc Tryz.prog 200 [nU false l] (fun x obs=>x=.agg [.own 0 0,.own 1 0]∧obs=[oD l.owner,⟨.rows false 22,true,0,.arr 1 [.own 2 0,.own 3 0,.own 4 0,.own 5 0]⟩,oD l.queue[0]!,oD l.queue[1]!,oD l.queue[2]!,oD l.queue[3]!]):=by
 obtain⟨ow,qu⟩:=l;obtain⟨k1,k2,k3,k4⟩:=h;have lq:∀x∈qu,x.length≤4:=fun x hx=>xc8 (k4 x hx);obtain⟨x0,x1,x2,x3,rfl⟩:=gQ k2;have l0:=lq x0 ξ;have l1:=lq x1 ξ;have l2:=lq x2 ξ;have l3:=lq x3 ξ;clear lq k4 k3 k2;dsimp only at k1;simp only [oD,List.getElem!_cons_zero,List.getElem!_cons_succ];refine aI xlr fun W S=>?_;refine lZ 3 1 22 1 rfl rfl δ rfl ?_;refine iI 4 rfl ?_;refine fU 5 ?_;refine qL ?_;refine iL (fu:=oM) aT [3,4] 2 rfl κ ?_;simp only [go_sem]
 repeat(first|refine And.intro ω ?_|refine And.intro rfl ?_|refine gJ rfl rfl ?_|refine bY ?_|refine dI κ ?_|(simp (disch:=omega) only [fJ,Nat.min_eq_left,Nat.min_eq_right,if_pos,if_neg,fF,bW,dU,fH,fM,fK,aN,aJ,dB,dA,dP,dO,Int.toNat_natCast];try simp only [go_sem])|(refine dR rfl ?_ ?_;·(simp<;>omega))|(refine dZ rfl ?_ ?_;·(simp<;>omega))|((first|refine fQ ?_|refine gK rfl ?_|refine sQ [3,4] rfl ?_);simp only [go_sem]))
 refine iL (fu:=oM) aT [3,4] 2 rfl κ ?_;simp only [go_sem]
 repeat(first|refine And.intro ω ?_|refine And.intro rfl ?_|refine gJ rfl rfl ?_|refine bY ?_|refine dI κ ?_|(simp (disch:=omega) only [fJ,Nat.min_eq_left,Nat.min_eq_right,if_pos,if_neg,fF,bW,dU,fH,fM,fK,aN,aJ,dB,dA,dP,dO,Int.toNat_natCast];try simp only [go_sem])|(refine dR rfl ?_ ?_;·(simp<;>omega))|(refine dZ rfl ?_ ?_;·(simp<;>omega))|((first|refine fQ ?_|refine gK rfl ?_|refine sQ [3,4] rfl ?_);simp only [go_sem]))
 refine iL (fu:=oM) aT [3,4] 2 rfl κ ?_;simp only [go_sem]
 repeat(first|refine And.intro ω ?_|refine And.intro rfl ?_|refine gJ rfl rfl ?_|refine bY ?_|refine dI κ ?_|(simp (disch:=omega) only [fJ,Nat.min_eq_left,Nat.min_eq_right,if_pos,if_neg,fF,bW,dU,fH,fM,fK,aN,aJ,dB,dA,dP,dO,Int.toNat_natCast];try simp only [go_sem])|(refine dR rfl ?_ ?_;·(simp<;>omega))|(refine dZ rfl ?_ ?_;·(simp<;>omega))|((first|refine fQ ?_|refine gK rfl ?_|refine sQ [3,4] rfl ?_);simp only [go_sem]))
 refine iL (fu:=oM) aT [3,4] 2 rfl κ ?_;simp only [go_sem]
 repeat(first|refine And.intro ω ?_|refine And.intro rfl ?_|refine gJ rfl rfl ?_|refine bY ?_|refine dI κ ?_|(simp (disch:=omega) only [fJ,Nat.min_eq_left,Nat.min_eq_right,if_pos,if_neg,fF,bW,dU,fH,fM,fK,aN,aJ,dB,dA,dP,dO,Int.toNat_natCast];try simp only [go_sem])|(refine dR rfl ?_ ?_;·(simp<;>omega))|(refine dZ rfl ?_ ?_;·(simp<;>omega))|((first|refine fQ ?_|refine gK rfl ?_|refine sQ [3,4] rfl ?_);simp only [go_sem]))
 refine aA ?_;refine xbd xlr [2,4,5,7,9,11] ?_;exact fP
end Go.Proofs.YthmjocibdepahaaGreat
