import Derived.Test.YthmjocibdepahaaGreatA9
set_option linter.defProp false
set_option linter.unusedSimpArgs false
set_option linter.unusedVariables false
set_option maxHeartbeats 64000000
set_option maxRecDepth 100000
namespace Go.Proofs.YthmjocibdepahaaGreat
open Go Go.RowKit Rdn Rdn.Dp
instance :Inhabited Opn:=⟨⟨0,0,false⟩⟩
instance :Inhabited Files:=⟨⟨[],[]⟩⟩
abbrev vO (o:Opn):V:=.agg [.int .i64 o.file,.int .i64 o.offset,.bool o.write]
instance :Lo vO vO:=⟨fun _=>rfl,fun _=>rfl⟩
abbrev cnV (t:Bool):List Canon→V:=bD t 4 aS
abbrev lC (f:Files):V:=.agg [.sl false 1 (f.data.map (bD false 4 aS)),.sl false 3 (f.opens.map vO)]
theorem ylr (l:List Opn):V.freshs (l.map vO)=true:=xcq _ _ (fun _=>rfl)
theorem ylp (l:List (List Canon)):V.freshs (l.map (bD true 4 aS))=true:=xcq _ _ (fun x=>by simp [bD,V.fresh,xwr])
theorem yun (l:List Opn) (i:Nat) (a b:Int) (c:Bool):(l.map vO).set i (.agg [.int .i64 a,.int .i64 b,.bool c])=(l.set i ⟨a,b,c⟩).map vO:=by rw [List.map_set]
theorem yv5 (l:List Opn) (a b:Int) (c:Bool) (r:List V):l.map vO++(V.agg [.int .i64 a,.int .i64 b,.bool c]::r)=(l++[(⟨a,b,c⟩:Opn)]).map vO++r:=by simp
theorem ydr {α:Type} (t:Bool) (s:Nat) (f:α→V) (l:List (List α)) (i:Nat) (d:List α):(l.map (bD t s f)).set i (V.sl t s (d.map f))=(l.set i d).map (bD t s f):=by rw [List.map_set]
theorem ywd (l:List Canon) (n:Nat):(l.map aS).take n=(l.take n).map aS:=by rw [List.map_take]
theorem yjm (l:List Canon) (n:Nat):(l.map aS).drop n=(l.drop n).map aS:=by rw [List.map_drop]
attribute [go_sem] ywd yjm List.take_length ylr ylp yun yv5 ydr
def okC (c:Canon):Prop:=((c.tag=0∨c.tag=2)∧c.region=0∧c.offset=0)∨(c.tag=1∧c.val=0∧((c.region=-1∧0≤c.offset∧c.offset≤65535)∨(0≤c.region∧c.region<4∧0≤c.offset∧c.offset<32)))
instance (c:Canon):Decidable (okC c):=by unfold okC;exact inferInstance
def iH (c:Canon):Bool:=decide (okC c)
def fD (l:List Canon) (n:Int):Bool:=l.all iH && decide ((l.length:Int)≤n)
def xR:Opn:=⟨-1,0,false⟩
def yV (f:Files) (o:Opn):Prop:=(o.file=-1∧o.offset=0∧o.write=false)∨(0≤o.file∧o.file<f.data.length∧0≤o.offset∧o.offset≤f.data[o.file.toNat]!.length)
structure FitF (f:Files):Prop where
 d:f.data.length≤4
 o:f.opens.length=8
 len:∀x∈f.data,x.length≤64
 cell:∀x∈f.data,x.all iH=true
 ok:∀o∈f.opens,yV f o
def fV (f:Files):Nat:=f.opens.findIdx fun o=>decide (o.file=-1)
def zr (k:Int) (o:Opn):Opn:=if o.file=k then⟨o.file,0,o.write⟩ else o
def oQ (f:Files) (k m:Int):Files×Int:=
 if k<0∨(f.data.length:Int)≤k∨m<0∨2<m∨fV f=f.opens.length then(f,-1)
 else if m=0 then(⟨f.data,f.opens.set (fV f) ⟨k,0,false⟩⟩,fV f)
 else if m=1 then(⟨f.data.set k.toNat [],(f.opens.map (zr k)).set (fV f) ⟨k,0,true⟩⟩,fV f)
 else(⟨f.data,f.opens.set (fV f) ⟨k,f.data[k.toNat]!.length,true⟩⟩,fV f)
def nY (f:Files) (h:Int):Prop:=0≤h∧h<f.opens.length∧f.opens[h.toNat]!.file≠-1
instance (f:Files) (h:Int):Decidable (nY f h):=by unfold nY;exact inferInstance
def dat (f:Files) (h:Int):List Canon:=f.data[f.opens[h.toNat]!.file.toNat]!
def tH (f:Files) (h:Int):Files×Bool:=if nY f h then(⟨f.data,f.opens.set h.toNat xR⟩,true) else(f,false)
def zC (f:Files) (h x:Int):List Opn:=f.opens.set h.toNat ⟨f.opens[h.toNat]!.file,x,f.opens[h.toNat]!.write⟩
def sH (f:Files) (h x:Int):Files×Bool:=if nY f h∧0≤x∧x≤(dat f h).length then(⟨f.data,zC f h x⟩,true) else(f,false)
def yZ (f:Files) (h n:Int):Int:=min n ((dat f h).length-f.opens[h.toNat]!.offset)
def kR (f:Files) (h n:Int):Files×List Canon×Bool:=
 if nY f h∧0≤n∧f.opens[h.toNat]!.write=false then(⟨f.data,zC f h (f.opens[h.toNat]!.offset+yZ f h n)⟩,((dat f h).drop f.opens[h.toNat]!.offset.toNat).take (yZ f h n).toNat,true) else(f,[],false)
def sN (f:Files) (h:Int) (c:List Canon):Int:=min c.length (64-f.opens[h.toNat]!.offset)
def over (d:List Canon) (a:Nat) (c:List Canon):List Canon:=d.take a++c++d.drop (a+c.length)
def nM (f:Files) (h:Int) (c:List Canon):Files×Int×Bool:=
 if nY f h∧f.opens[h.toNat]!.write=true∧c.all iH=true then(⟨f.data.set f.opens[h.toNat]!.file.toNat (over (dat f h) f.opens[h.toNat]!.offset.toNat (c.take (sN f h c).toNat)),zC f h (f.opens[h.toNat]!.offset+sN f h c)⟩,sN f h c,true) else(f,0,false)
theorem xg2 {α:Type} [Inhabited α] {l:List α} {x:α} (h:x∈l):∃k,k<l.length∧l[k]! =x:=by
 obtain⟨k,hk,rfl⟩:=List.getElem_of_mem h;exact⟨k,hk,getElem!_pos l k hk⟩
theorem xnd {α:Type} [Inhabited α] {l:List α} {i j:Nat} {x:α} (h:j<l.length):(l.set i x)[j]! =if i=j then x else l[j]!:=by
 rw [getElem!_pos _ j (by simpa using h),getElem!_pos l j h,List.getElem_set]
theorem FitF.at {f:Files} (F:FitF f) {h:Int} (c:nY f h):0≤f.opens[h.toNat]!.file∧f.opens[h.toNat]!.file<f.data.length∧0≤f.opens[h.toNat]!.offset∧f.opens[h.toNat]!.offset≤(dat f h).length∧(dat f h).length≤64:=by
 obtain⟨c1,c2,c3⟩:=c;have hl:h.toNat<f.opens.length:=ω;rcases F.ok _ (kE hl) with h1|h1
 ·exact absurd h1.1 c3
 ·exact⟨h1.1,h1.2.1,h1.2.2.1,h1.2.2.2,F.len _ (kE ω)⟩
theorem xrh {f g:Files} (hl:g.data.length=f.data.length) {o:Opn} (hd:∀k:Nat,(k:Int)=o.file→k<f.data.length→f.data[k]!.length≤g.data[k]!.length) (h:yV f o):yV g o:=by
 rcases h with h|⟨h1,h2,h3,h4⟩
 ·exact .inl h
 ·have:=hd o.file.toNat ω ω
  exact .inr ⟨h1,ω,h3,ω⟩
theorem yq0 {f g:Files} (hd:g.data=f.data) {o:Opn} (h:yV f o):yV g o:=xrh (by rw [hd]) (fun k _ _=>by rw [hd];exact Nat.le_refl _) h
theorem FitF.opens {f:Files} (F:FitF f) {l:List Opn} (hl:l.length=8) (ho:∀o∈l,yV f o):FitF ⟨f.data,l⟩:=⟨F.d,hl,F.len,F.cell,fun o h=>yq0 rfl (ho o h)⟩
theorem FitF.close {f:Files} (F:FitF f) (h:Int):FitF (tH f h).1:=by
 unfold tH;split
 ·refine F.opens (by rw [List.length_set];exact F.o) fun o ho=>?_
  rcases List.mem_or_eq_of_mem_set ho with ho|rfl
  ·exact F.ok o ho
  ·exact .inl ⟨rfl,rfl,rfl⟩
 ·exact F
theorem FitF.off {f:Files} (F:FitF f) {h x:Int} (c:nY f h) (h0:0≤x) (h1:x≤(dat f h).length):FitF ⟨f.data,zC f h x⟩:=by
 have ha:=F.at c;refine F.opens (by unfold zC;rw [List.length_set];exact F.o) fun o ho=>?_;rcases List.mem_or_eq_of_mem_set ho with ho|rfl
 ·exact F.ok o ho
 ·exact .inr ⟨ha.1,ha.2.1,h0,h1⟩
theorem FitF.seek {f:Files} (F:FitF f) (h x:Int):FitF (sH f h x).1:=by
 unfold sH;split
 ·rename_i c
  exact F.off c.1 c.2.1 c.2.2
 ·exact F
theorem FitF.read {f:Files} (F:FitF f) (h n:Int):FitF (kR f h n).1:=by
 unfold kR;split
 ·rename_i c
  have ha:=F.at c.1;exact F.off c.1 (by unfold yZ;omega) (by unfold yZ;omega)
 ·exact F
theorem xjg {d c:List Canon} {a:Nat} (h:a≤d.length):(over d a c).length=max d.length (a+c.length):=by
 unfold over;simp only [List.length_append,List.length_take,List.length_drop];omega
theorem FitF.data {f:Files} (F:FitF f) {k:Nat} {d:List Canon} {l:List Opn} (hk:k<f.data.length) (hd:d.length≤64) (hc:d.all iH=true) (hl:l.length=8) (ho:∀o∈l,yV ⟨f.data.set k d,l⟩ o):FitF ⟨f.data.set k d,l⟩:=by
 refine⟨by show(f.data.set k d).length≤4;rw [List.length_set];exact F.d,hl,fun x hx=>?_,fun x hx=>?_,ho⟩
 ·rcases List.mem_or_eq_of_mem_set hx with hx|rfl
  ·exact F.len x hx
  ·exact hd
 ·rcases List.mem_or_eq_of_mem_set hx with hx|rfl
  ·exact F.cell x hx
  ·exact hc
theorem FitF.write {f:Files} (F:FitF f) (h:Int) (c:List Canon):FitF (nM f h c).1:=by
 unfold nM;split
 ·rename_i hc
  have ha:=F.at hc.1;have hk:f.opens[h.toNat]!.file.toNat<f.data.length:=ω;have hw:(c.take (sN f h c).toNat).length=(sN f h c).toNat:=by rw [List.length_take];unfold sN;omega
  have hl:=xjg (d:=dat f h) (c:=c.take (sN f h c).toNat) (a:=f.opens[h.toNat]!.offset.toNat) ω;rw [hw] at hl;have hwr:sN f h c≤64-f.opens[h.toNat]!.offset∧0≤sN f h c:=by unfold sN;omega
  refine F.data hk ω ?_ (by unfold zC;rw [List.length_set];exact F.o) fun o ho=>?_
  ·have hdc:=F.cell _ (kE hk)
   simp only [List.all_eq_true] at hdc hc⊢;intro x hx;unfold over at hx;rcases List.mem_append.1 hx with hx|hx
   ·rcases List.mem_append.1 hx with hx|hx
    ·exact hdc x (List.mem_of_mem_take hx)
    ·exact hc.2.2 x (List.mem_of_mem_take hx)
   ·exact hdc x (List.mem_of_mem_drop hx)
  ·have grow:∀k:Nat,k<f.data.length→f.data[k]!.length≤(f.data.set f.opens[h.toNat]!.file.toNat (over (dat f h) f.opens[h.toNat]!.offset.toNat (c.take (sN f h c).toNat)))[k]!.length:=by
    intro k hk';rw [xnd hk'];split
    ·rename_i e
     rw [hl,←e];exact Nat.le_max_left _ _
    ·exact Nat.le_refl _
   rcases List.mem_or_eq_of_mem_set ho with ho|rfl
   ·exact xrh ξ (fun k _ hk'=>grow k hk') (F.ok o ho)
   ·refine .inr ⟨ha.1,by simpa using ha.2.1,by show 0≤f.opens[h.toNat]!.offset+_;omega,?_⟩
    show f.opens[h.toNat]!.offset+_≤_;rw [xnd hk,if_pos rfl,hl];omega
 ·exact F
theorem xx0 (f:Files):fV f≤f.opens.length:=List.findIdx_le_length
theorem FitF.open {f:Files} (F:FitF f) (k m:Int):FitF (oQ f k m).1:=by
 unfold oQ;split
 ·exact F
 rename_i c;simp only [not_or,Int.not_lt,Int.not_le] at c;obtain⟨c1,c2,c3,c4,c5⟩:=c;have hk:k.toNat<f.data.length:=ω;split
 ·refine F.opens (by rw [List.length_set];exact F.o) fun o ho=>?_
  rcases List.mem_or_eq_of_mem_set ho with ho|rfl
  ·exact F.ok o ho
  ·exact .inr ⟨c1,c2,Int.le_refl _,Int.natCast_nonneg _⟩
 split
 ·refine F.data hk ξ rfl (by simp [F.o]) fun o ho=>?_
  rcases List.mem_or_eq_of_mem_set ho with ho|rfl
  ·obtain⟨o',ho',rfl⟩:=List.mem_map.1 ho
   have h1:=F.ok o' ho';unfold zr;split
   ·rename_i e
    rcases h1 with h1|h1
    ·omega
    ·exact .inr ⟨h1.1,by simpa using h1.2.1,Int.le_refl _,Int.natCast_nonneg _⟩
   ·rename_i e
    refine xrh (f:=f) ξ (fun j hj hj'=>?_) h1;show _≤(f.data.set k.toNat [])[j]!.length;rw [xnd hj'];split
    ·omega
    ·exact Nat.le_refl _
  ·refine .inr ⟨c1,by simpa using c2,Int.le_refl _,Int.natCast_nonneg _⟩
 ·refine F.opens (by rw [List.length_set];exact F.o) fun o ho=>?_
  rcases List.mem_or_eq_of_mem_set ho with ho|rfl
  ·exact F.ok o ho
  ·exact .inr ⟨c1,c2,Int.natCast_nonneg _,Int.le_refl _⟩
end Go.Proofs.YthmjocibdepahaaGreat
namespace Go.Proofs.YthmjocibdepahaaGreat
open Go Go.RowKit Rdn Rdn.Dp
def xgv:=aC 172
structure LowF (f:Files):Prop where
 d:f.data.length≤1000
 o:f.opens.length≤1000
 len:∀x∈f.data,x.length≤100000
theorem FitF.low {f:Files} (F:FitF f):LowF f:=⟨by have:=F.d;omega,by have:=F.o;omega,fun x hx=>by have:=F.len x hx;omega⟩
theorem xP (f:Files) (F:LowF f):Fnc Tryz.prog 172 [lC f] (fun x obs=>x=.agg [.own 0 0,.own 1 0]∧obs=[⟨.row 66,true,0,.arr 1 (f.data.map (bD true 4 aS))⟩,⟨.row 295,true,0,.arr 3 (f.opens.map vO)⟩]):=by
 have h1:=F.d;have h2:=F.o;refine aI xgv fun W S=>?_;refine lZ 3 0 66 1 rfl rfl δ rfl ?_;refine bI [2,3,11,12] (fun p:{p:Nat // p≤f.data.length}=>[(13,.int .i64 p.1)]) (fun p=>[⟨.box false 91,true,0,lC f⟩,⟨.box false 91,true,0,.agg [.nilS,.nilS]⟩,⟨.row 295,true,0,.arr 3 (f.opens.map vO)⟩,⟨.box false 91,true,0,.agg [.own 4 p.1,.own 2 0]⟩,⟨.row 66,true,p.1,.arr 1 ((f.data.take p.1).map (bD true 4 aS))⟩]) (fun p=>f.data.length-p.1) (⟨0,by simp⟩) 5 ?_;intro J hJ
 rintro⟨k,hk0⟩
 by_cases hlt:k<f.data.length
 ·have hs:=jG hlt
  have hb:=F.len _ (kE hlt);have hl2:(f.data.take k).length=k:=by rw [List.length_take];omega
  refine aA ?_;exact rQ (hJ _ (⟨k+1,hlt⟩) ψ) hs
 ·obtain rfl:k=f.data.length:=ω
  refine aA ?_;refine xbd xgv [4,2] ?_;(first|(simp only [go_sem];done)|(simp only [go_sem];((try dsimp only);(repeat' (refine And.intro ?_ ?_))<;>first|with_reducible rfl|(simp only [go_sem];done)|(simp only [go_sem];rfl)|(simp only [go_sem,List.take_length];done)|(simp only [List.take_length];(try simp only [go_sem]);first|done|rfl)|(simp only [go_sem];simp [List.take_length];done)|(simp [List.take_length];done)|rfl)))
attribute [local go_sem] List.length_set
def oJ (f:Files) (j:Nat) (a:List Ob) (p:Nat):List Ob:=if j<p then a++[⟨.rows false 66,true,p,.arr 1 (((f.data.take p).map (bD true 4 aS)).set j (.own 5 1))⟩,⟨.row 104,true,1,.arr 4 (f.data[j]!.map aS)⟩] else a++[⟨.rows false 66,true,p,.arr 1 ((f.data.take p).map (bD true 4 aS))⟩]
theorem vN {f:Files} {j p:Nat} {a:List Ob} (h:¬j<p):oJ f j a p=a++[⟨.rows false 66,true,p,.arr 1 ((f.data.take p).map (bD true 4 aS))⟩]:=if_neg h
theorem qQ {f:Files} {j p:Nat} {a:List Ob} (h:j<p):oJ f j a p=a++[⟨.rows false 66,true,p,.arr 1 (((f.data.take p).map (bD true 4 aS)).set j (.own 5 1))⟩,⟨.row 104,true,1,.arr 4 (f.data[j]!.map aS)⟩]:=if_pos h
theorem yuj {α:Type} [Inhabited α] {l:List α} {g:α→V} {j k:Nat} {x:V} (h:k<l.length) (hj:j<k):((l.take k).map g).set j x++[g l[k]!]=((l.take (k+1)).map g).set j x:=by
 rw [jG h,List.map_append,List.set_append_left _ _ (by simp;omega)];rfl
theorem yui {α:Type} [Inhabited α] {l:List α} {g:α→V} {k:Nat} {x:V} (h:k<l.length):(l.take k).map g++[x]=((l.take (k+1)).map g).set k x:=by
 rw [jG h,List.map_append,List.set_append_right _ _ (by simp;omega)];simp [Nat.min_eq_left (Nat.le_of_lt h)]
theorem ysb (f:Files) (F:LowF f) (j:Nat) (hj:j<f.data.length):Fnc Tryz.prog 172 [lC f] (fun x obs=>x=.agg [.own 0 0,.own 1 0]∧obs=[⟨.rows false 66,true,0,.arr 1 ((f.data.map (bD true 4 aS)).set j (.own 2 0))⟩,⟨.row 295,true,0,.arr 3 (f.opens.map vO)⟩,⟨.row 104,true,0,.arr 4 (f.data[j]!.map aS)⟩]):=by
 have h1:=F.d;have h2:=F.o;refine aI xgv fun W S=>?_;refine lZ 3 0 66 1 rfl rfl δ rfl ?_;refine iI 4 rfl ?_;refine gY [2,3,11,12] (fun p:{p:Nat // p≤f.data.length}=>[(13,.int .i64 p.1)]) (fun p=>oJ f j [⟨.box false 91,true,0,lC f⟩,⟨.box false 91,true,0,.agg [.nilS,.nilS]⟩,⟨.row 295,true,0,.arr 3 (f.opens.map vO)⟩,⟨.box false 91,true,0,.agg [.own 4 p.1,.own 2 0]⟩] p.1) (fun p=>f.data.length-p.1) (⟨0,by simp⟩) 5 τ ?_ (by first|rfl|(simp only [go_sem];done)|(simp only [go_sem];simp [vN (Nat.not_lt_zero j)];done)) ξ φ φ (by first|rfl|(simp only [go_sem];done)|(simp only [vN (Nat.not_lt_zero j)];(try simp only [go_sem]);first|done|rfl)) ?_
 ·(simp only [go_sem];(try simp [vN (Nat.not_lt_zero j)]);done)
 intro J hJ
 rintro⟨k,hk0⟩
 dsimp only;by_cases hlt:k<f.data.length
 ·have hs:=jG hlt
  have hb:=F.len _ (kE hlt);have hl2:(f.data.take k).length=k:=by rw [List.length_take];omega
  rcases Nat.lt_trichotomy k j with c|c|c
  ·have z1:=vN (f:=f) (j:=j) (p:=k+1) (a:=[]) ω
   rw [vN ω];refine aA ?_;refine lI 5 (hJ _ (⟨k+1,hlt⟩) ψ) rfl ξ ?_ φ (by first|rfl|(simp only [go_sem];done)|(simp only [vN (show ¬j<k+1 by omega),hs];(try simp only [go_sem]);first|done|rfl)) ?_
   ·(first|rfl|(simp only [go_sem];done)|(simp only [go_sem];simp only [vN (show ¬j<k+1 by omega),hs];done)|(simp only [vN (show ¬j<k+1 by omega),hs];done)|(simp only [go_sem];simp [vN (show ¬j<k+1 by omega),hs];done)|(simp [vN (show ¬j<k+1 by omega),hs];done))
   ·(simp only [go_sem];(repeat' (refine And.intro ?_ ?_))<;>first|exact trivial|with_reducible rfl|(simp only [vN (show ¬j<k+1 by omega),hs];done)|(simp only [vN (show ¬j<k+1 by omega),hs];with_reducible rfl)|(simp [vN (show ¬j<k+1 by omega),hs];done)|(simp [vN (show ¬j<k+1 by omega),hs];omega)|(simp only [vN (show ¬j<k+1 by omega),hs];rfl)|skip)
  ·subst c
   rw [vN ω];have hs2:(f.data.take k).map (bD true 4 aS)++[V.own 5 1]=((f.data.take (k+1)).map (bD true 4 aS)).set k (.own 5 1):=yui hlt;refine qL ?_;refine iL (fu:=oM) aT [3,4] 2 rfl κ ?_;simp only [go_sem]
   repeat(first|refine And.intro ω ?_|refine And.intro rfl ?_|refine gJ rfl rfl ?_|refine bY ?_|refine dI κ ?_|(simp (disch:=omega) only [fJ,Nat.min_eq_left,Nat.min_eq_right,if_pos,if_neg,fF,bW,dU,fH,fM,fK,aN,aJ,dB,dA,dP,dO,Int.toNat_natCast];try simp only [go_sem])|(refine dR rfl ?_ ?_;·(simp<;>omega))|(refine dZ rfl ?_ ?_;·(simp<;>omega))|((first|refine fQ ?_|refine gK rfl ?_|refine sQ [3,4] rfl ?_|refine jJ aT rfl κ ?_|refine jK aT rfl κ ?_|refine jL aT rfl κ ?_);simp only [go_sem]))
   refine lI 6 (hJ _ (⟨k+1,hlt⟩) ψ) rfl ξ ?_ φ (by first|rfl|(simp only [go_sem];done)|(simp only [qQ (show k<k+1 by omega),hs2,List.cons_append,List.nil_append];(try simp only [go_sem]);first|done|rfl)) ?_
   ·(first|rfl|(simp only [go_sem];done)|(simp only [go_sem];simp only [qQ (show k<k+1 by omega),hs2,List.cons_append,List.nil_append];done)|(simp only [qQ (show k<k+1 by omega),hs2,List.cons_append,List.nil_append];done)|(simp only [go_sem];simp [qQ (show k<k+1 by omega),hs2,List.cons_append,List.nil_append];done)|(simp [qQ (show k<k+1 by omega),hs2,List.cons_append,List.nil_append];done))
   ·(simp only [go_sem];(repeat' (refine And.intro ?_ ?_))<;>first|exact trivial|with_reducible rfl|(simp only [qQ (show k<k+1 by omega),hs2,List.cons_append,List.nil_append];done)|(simp only [qQ (show k<k+1 by omega),hs2,List.cons_append,List.nil_append];with_reducible rfl)|(simp [qQ (show k<k+1 by omega),hs2,List.cons_append,List.nil_append];done)|(simp [qQ (show k<k+1 by omega),hs2,List.cons_append,List.nil_append];omega)|(simp only [qQ (show k<k+1 by omega),hs2,List.cons_append,List.nil_append];rfl)|skip)
  ·rw [qQ c]
   have hs2:((f.data.take k).map (bD true 4 aS)).set j (.own 5 1)++[V.sl true 4 (f.data[k]!.map aS)]=((f.data.take (k+1)).map (bD true 4 aS)).set j (.own 5 1):=yuj hlt c;refine aA ?_;refine lI 6 (hJ _ (⟨k+1,hlt⟩) ψ) rfl ξ ?_ φ (by first|rfl|(simp only [go_sem];done)|(simp only [qQ (show j<k+1 by omega),hs2,List.cons_append,List.nil_append];(try simp only [go_sem]);first|done|rfl)) ?_
   ·(first|rfl|(simp only [go_sem];done)|(simp only [go_sem];simp only [qQ (show j<k+1 by omega),hs2,List.cons_append,List.nil_append];done)|(simp only [qQ (show j<k+1 by omega),hs2,List.cons_append,List.nil_append];done)|(simp only [go_sem];simp [qQ (show j<k+1 by omega),hs2,List.cons_append,List.nil_append];done)|(simp [qQ (show j<k+1 by omega),hs2,List.cons_append,List.nil_append];done))
   ·(simp only [go_sem];(repeat' (refine And.intro ?_ ?_))<;>first|exact trivial|with_reducible rfl|(simp only [qQ (show j<k+1 by omega),hs2,List.cons_append,List.nil_append];done)|(simp only [qQ (show j<k+1 by omega),hs2,List.cons_append,List.nil_append];with_reducible rfl)|(simp [qQ (show j<k+1 by omega),hs2,List.cons_append,List.nil_append];done)|(simp [qQ (show j<k+1 by omega),hs2,List.cons_append,List.nil_append];omega)|(simp only [qQ (show j<k+1 by omega),hs2,List.cons_append,List.nil_append];rfl)|skip)
 ·obtain rfl:k=f.data.length:=ω
  rw [qQ hj];refine aA ?_;refine xbd xgv [4,2,5] ?_;simp only [go_sem];exact V.oksW_set (V.oksW_pure _ _ _ (bV _ _)) _ χ
end Go.Proofs.YthmjocibdepahaaGreat
namespace Go.Proofs.YthmjocibdepahaaGreat
open Go Go.RowKit Rdn Rdn.Dp
def xe1:=aC 236
def xly:=aC 224
attribute [local irreducible] tH sH zC dat
theorem xn3 (f:Files) (F:FitF f) (h:Int):Fnc Tryz.prog 236 [lC f,.int .i64 h] (fun x obs=>x=.bool (decide (nY f h))∧obs=[]):=by
 have h8:=F.o;by_cases c1:h<0
 ·have hr:decide (nY f h)=false:=aJ fun c=>by have:=c.1;omega
  refine aI xe1 fun W S=>?_;exact aX xe1 hr
 by_cases c2:(f.opens.length:Int)≤h
 ·have hr:decide (nY f h)=false:=aJ fun c=>by have:=c.2.1;omega
  refine aI xe1 fun W S=>?_;exact aX xe1 hr
 obtain⟨i,hi⟩:∃i:Nat,h=i:=⟨h.toNat,ω⟩;subst hi;have hil:i<f.opens.length:=ω;have hi':((i:Int)).toNat=i:=Int.toNat_natCast i;by_cases c3:f.opens[i]!.file=-1
 ·have hr:decide (nY f i)=false:=aJ fun c=>c.2.2 (by rw [hi'];exact c3)
  refine aI xe1 fun W S=>?_;exact aX xe1 hr
 ·have hr:decide (nY f i)=true:=aN ⟨ω,ω,by rw [hi'];exact c3⟩
  refine aI xe1 fun W S=>?_;exact aX xe1 hr
theorem ytr {f:Files} {h:Int} (c:nY f h):tH f h=(⟨f.data,f.opens.set h.toNat xR⟩,true):=by unfold tH;exact if_pos c
theorem ytq {f:Files} {h:Int} (c:¬nY f h):tH f h=(f,false):=by unfold tH;exact if_neg c
theorem ysa (f:Files) (F:FitF f) (h:Int):Fnc Tryz.prog 224 [lC f,.int .i64 h] (fun x obs=>x=.tup [lC (tH f h).1,.bool (tH f h).2]∧obs=[]):=by
 refine Fnc.low ?_;have fO:=xn3 f F h;by_cases c:nY f h
 ·rw [aN c] at fO
  rw [ytr c];obtain⟨c1,c2,c3⟩:=c;refine aI xly fun W S=>?_;refine dD (xP f F.low) ?_;refine aF (fO) ?_;refine ret xly [] ?_;(first|(simp only [go_sem];done)|(simp only [go_sem];((try dsimp only);(repeat' (refine And.intro ?_ ?_))<;>first|with_reducible rfl|(simp only [go_sem];done)|(simp only [go_sem];rfl)|(simp only [go_sem,xR];done)|(simp only [xR];(try simp only [go_sem]);first|done|rfl)|(simp only [go_sem];simp [xR];done)|(simp [xR];done)|rfl)))
 ·rw [aJ c] at fO
  rw [ytq c];refine aI xly fun W S=>?_;refine dD (xP f F.low) ?_;exact qV fO xly
end Go.Proofs.YthmjocibdepahaaGreat
namespace Go.Proofs.YthmjocibdepahaaGreat
open Go Go.RowKit Rdn Rdn.Dp
def xe4:=aC 225
def xe2:=aC 222
theorem xsi (f:Files) (i:Nat) (x:Int):zC f i x=f.opens.set i ⟨f.opens[i]!.file,x,f.opens[i]!.write⟩:=rfl
theorem xou (f:Files) (i:Nat):dat f i=f.data[f.opens[i]!.file.toNat]!:=rfl
theorem xrm {f:Files} {i:Nat} (c:nY f i):i<f.opens.length∧f.opens[i]!.file≠-1:=⟨by have:=c.2.1;omega,c.2.2⟩
theorem yu8 {f:Files} {h x:Int} (c:nY f h) (c1:0≤x) (c2:x≤(dat f h).length):sH f h x=(⟨f.data,zC f h x⟩,true):=by unfold sH;exact if_pos ⟨c,c1,c2⟩
theorem xsb {f:Files} {h x:Int} (c:¬(nY f h∧0≤x∧x≤(dat f h).length)):sH f h x=(f,false):=by unfold sH;exact if_neg c
theorem ytz {f:Files} {h n:Int} (c:nY f h) (c1:0≤n) (c2:f.opens[h.toNat]!.write=false):kR f h n=(⟨f.data,zC f h (f.opens[h.toNat]!.offset+yZ f h n)⟩,((dat f h).drop f.opens[h.toNat]!.offset.toNat).take (yZ f h n).toNat,true):=by unfold kR;exact if_pos ⟨c,c1,c2⟩
theorem xsa {f:Files} {h n:Int} (c:¬(nY f h∧0≤n∧f.opens[h.toNat]!.write=false)):kR f h n=(f,[],false):=by unfold kR;exact if_neg c
attribute [local irreducible] sH kR zC dat yZ
theorem ytc (f:Files) (F:FitF f) (h x:Int):Fnc Tryz.prog 225 [lC f,.int .i64 h,.int .i64 x] (fun y obs=>y=.tup [lC (sH f h x).1,.bool (sH f h x).2]∧obs=[]):=by
 refine Fnc.low ?_;have fO:=xn3 f F h;by_cases c:nY f h
 ·have ha:=F.at c
  rw [aN c] at fO;obtain⟨i,hi⟩:∃i:Nat,h=i:=⟨h.toNat,by have:=c.1;omega⟩;subst hi;rw [Int.toNat_natCast] at ha;have hd:=xou f i;have ho:=xsi f i x;obtain⟨c2,c3⟩:=xrm c;have fV:(dat f i).length=f.data[f.opens[i]!.file.toNat]!.length:=by rw [hd]
  by_cases c4:x<0
  ·rw [xsb (fun k=>by have:=k.2.1;omega)]
   refine aI xe4 fun W S=>?_;refine dD (xP f F.low) ?_;exact qV fO xe4
  by_cases c5:((dat f i).length:Int)<x
  ·rw [xsb (fun k=>by have:=k.2.2;omega)]
   refine aI xe4 fun W S=>?_;refine dD (xP f F.low) ?_;exact qV fO xe4
  ·rw [yu8 c ω ω]
   refine aI xe4 fun W S=>?_;refine dD (xP f F.low) ?_;refine aF (fO) ?_;exact aX xe4 ho
 ·rw [aJ c] at fO
  rw [xsb (fun k=>c k.1)];refine aI xe4 fun W S=>?_;refine dD (xP f F.low) ?_;exact qV fO xe4
theorem yt9 (f:Files) (F:FitF f) (h n:Int):Fnc Tryz.prog 222 [lC f,.int .i64 h,.int .i64 n] (fun y obs=>y=.tup [lC (kR f h n).1,cnV false (kR f h n).2.1,.bool (kR f h n).2.2]∧obs=[]):=by
 refine Fnc.low ?_;have fO:=xn3 f F h;by_cases c:nY f h
 ·have ha:=F.at c
  rw [aN c] at fO;obtain⟨i,hi⟩:∃i:Nat,h=i:=⟨h.toNat,by have:=c.1;omega⟩;subst hi;have hR:=@ytz f i n c;rw [Int.toNat_natCast] at ha hR;have hd:=xou f i;obtain⟨c2,c3⟩:=xrm c;by_cases c4:n<0
  ·rw [xsa (fun k=>by have:=k.2.1;omega)]
   refine aI xe2 fun W S=>?_;refine dD (xP f F.low) ?_;refine aF (fO) ?_;refine tZ 7 true 4 rfl ?_;exact aU xe2
  by_cases c5:f.opens[i]!.write=true
  ·rw [xsa (fun k=>by rw [Int.toNat_natCast] at k;rw [c5] at k;cases k.2.2)]
   refine aI xe2 fun W S=>?_;refine dD (xP f F.low) ?_;refine bZ (fO) ?_;refine aY c5 ?_;refine tZ 7 true 4 rfl ?_;exact aU xe2
  ·have c6:f.opens[i]!.write=false:=by simpa using c5
   rw [hR ω c6];refine aI xe2 fun W S=>?_;refine dD (xP f F.low) ?_;refine bZ (fO) ?_;obtain⟨D,hD⟩:∃D,f.data[f.opens[i]!.file.toNat]! =D:=⟨_,rfl⟩;rw [hD] at hd;rw [hd] at ha⊢;have hm:(if(D.length:Int)-f.opens[i]!.offset<n then(D.length:Int)-f.opens[i]!.offset else n)=yZ f i n:=by
    unfold yZ;rw [Int.toNat_natCast,hd];split<;>omega
   obtain⟨K,hK⟩:∃K:Nat,yZ f i n=K:=⟨(yZ f i n).toNat,by rw [←hm];split<;>omega⟩;have hKD:f.opens[i]!.offset.toNat+K≤D.length:=by rw [hK] at hm;split at hm<;>omega
   have hlen:(((D.drop f.opens[i]!.offset.toNat).take K).length:Int)=K:=by rw [List.length_take,List.length_drop];omega
   have hTl:((D.drop f.opens[i]!.offset.toNat).take K).length≤64:=ω;have hTd:(D.take (f.opens[i]!.offset+(K:Int)).toNat).drop f.opens[i]!.offset.toNat=(D.drop f.opens[i]!.offset.toNat).take K:=by
    rw [List.drop_take]
    congr 1
    omega
   have ho:=xsi f i (f.opens[i]!.offset+K);rw [c6] at ho;rw [hK] at hm⊢
   repeat(first|(simp only [c6,hD,hm,hTd];try simp only [go_sem])|refine And.intro ω ?_|refine And.intro rfl ?_|refine gJ rfl rfl ?_|refine bY ?_|refine dI κ ?_|(simp (disch:=omega) only [fJ,Nat.min_eq_left,Nat.min_eq_right,if_pos,if_neg,fF,bW,dU,fH,fM,fK,aN,aJ,dB,dA,dP,dO,Int.toNat_natCast];try simp only [go_sem])|(refine dR rfl ?_ ?_;·(simp<;>omega))|(refine dZ rfl ?_ ?_;·(simp<;>omega))|((first|refine fQ ?_|refine gK rfl ?_|refine mZ rfl ?_|refine jJ aT rfl κ ?_|refine jK aT rfl κ ?_|refine jL aT rfl κ ?_);simp only [go_sem]))
   exact aX xe2 ho
 ·rw [aJ c] at fO
  rw [xsa (fun k=>c k.1)];refine aI xe2 fun W S=>?_;refine dD (xP f F.low) ?_;refine aF (fO) ?_;refine tZ 7 true 4 rfl ?_;exact aU xe2
end Go.Proofs.YthmjocibdepahaaGreat
namespace Go.Proofs.YthmjocibdepahaaGreat
open Go Go.RowKit Rdn Rdn.Dp
def yQ:=aC 223
theorem ylz {f:Files} {j:Nat} (h:j<fV f):f.opens[j]!.file≠-1:=by
 have hl:=xx0 f;have:=List.not_of_lt_findIdx (p:=fun o:Opn=>decide (o.file=-1)) (xs:=f.opens) h;rw [getElem!_pos f.opens j ω];simpa using this
theorem ym0 {f:Files} (h:fV f<f.opens.length):f.opens[fV f]!.file=-1:=by
 have:=List.findIdx_getElem (p:=fun o:Opn=>decide (o.file=-1)) (xs:=f.opens) (w:=h);rw [getElem!_pos f.opens (fV f) h];exact of_decide_eq_true this
def uO (k:Int) (l:List Opn) (p:Nat):List Opn:=(l.take p).map (zr k)++l.drop p
theorem xoq (k:Int) (l:List Opn) (p:Nat):(uO k l p).length=l.length:=by simp [uO];omega
theorem xos (k:Int) (l:List Opn):uO k l 0=l:=rfl
theorem yhp (k:Int) (l:List Opn):uO k l l.length=l.map (zr k):=by simp [uO]
theorem xut {k:Int} {l:List Opn} {p:Nat} (h:p<l.length):(uO k l p)[p]! =l[p]!:=by
 rw [getElem!_pos _ p (by rw [xoq];exact h),getElem!_pos l p h];simp [uO,List.getElem_append,Nat.min_eq_left (Nat.le_of_lt h)]
theorem xuu {k:Int} {l:List Opn} {p:Nat} (h:p<l.length):(uO k l p).set p (zr k l[p]!)=uO k l (p+1):=by
 unfold uO;rw [List.set_append_right _ _ (by simp;omega),jG h,List.map_append,List.append_assoc]
 congr 1
 have e:l.drop p=l[p]!::l.drop (p+1):=by rw [getElem!_pos l p h];exact(List.getElem_cons_drop h).symm
 rw [e];simp [Nat.min_eq_left (Nat.le_of_lt h)]
theorem yhq {k:Int} {l:List Opn} {p:Nat} (h:p<l.length) (c:l[p]!.file≠k):uO k l (p+1)=uO k l p:=by
 rw [←xuu h];have e:zr k l[p]! =(uO k l p)[p]!:=by rw [xut h];exact if_neg c
 rw [e,getElem!_pos _ p (by rw [xoq];exact h),List.set_getElem_self]
theorem yhr {k:Int} {l:List Opn} {p:Nat} (h:p<l.length) (c:l[p]!.file=k):(uO k l p).set p ⟨l[p]!.file,0,l[p]!.write⟩=uO k l (p+1):=by
 rw [←xuu h];exact congrArg _ (if_pos c).symm
theorem xjr {f:Files} {k m:Int} (c:k<0∨(f.data.length:Int)≤k∨m<0∨2<m∨fV f=f.opens.length):oQ f k m=(f,-1):=by unfold oQ;exact if_pos c
theorem ytv {f:Files} {k:Int} (c:¬(k<0∨(f.data.length:Int)≤k∨fV f=f.opens.length)):oQ f k 0=((⟨f.data,f.opens.set (fV f) ⟨k,0,false⟩⟩:Files),(fV f:Int)):=by
 unfold oQ;rw [if_neg ω,if_pos rfl]
theorem ytw {f:Files} {k:Int} (c:¬(k<0∨(f.data.length:Int)≤k∨fV f=f.opens.length)):oQ f k 1=((⟨f.data.set k.toNat [],(f.opens.map (zr k)).set (fV f) ⟨k,0,true⟩⟩:Files),(fV f:Int)):=by
 unfold oQ;rw [if_neg ω,if_neg ω,if_pos rfl]
theorem ytx {f:Files} {k:Int} (c:¬(k<0∨(f.data.length:Int)≤k∨fV f=f.opens.length)):oQ f k 2=((⟨f.data,f.opens.set (fV f) ⟨k,f.data[k.toNat]!.length,true⟩⟩:Files),(fV f:Int)):=by
 unfold oQ;rw [if_neg ω,if_neg ω,if_neg ω]
attribute [local irreducible] oQ fV uO
theorem ytb (f:Files) (F:FitF f) (k m:Int):Fnc Tryz.prog 223 [lC f,.int .i64 k,.int .i64 m] (fun y obs=>y=.tup [lC (oQ f k m).1,.int .i64 (oQ f k m).2]∧obs=[]):=by
 refine Fnc.low ?_;have hle:=xx0 f;have h8:=F.o;have h4:=F.d;refine aI yQ fun W S=>?_;refine dD (xP f F.low) ?_;refine bI [1,2,3,6,8] (fun p:{p:Nat // p≤fV f}=>[(9,.int .i64 p.1)]) (fun _=>[⟨.box false 91,true,0,lC f⟩,⟨.box false 91,true,0,.agg [.nilS,.nilS]⟩,⟨.row 66,true,0,.arr 1 (f.data.map (bD true 4 aS))⟩,⟨.row 295,true,0,.arr 3 (f.opens.map vO)⟩,⟨.box false 91,true,0,.agg [.own 2 0,.own 3 0]⟩]) (fun p=>fV f-p.1) (⟨0,by simp⟩) 5 ?_;intro J hJ
 rintro⟨h,hh⟩
 by_cases hlt:h<fV f
 ·have hn:=ylz hlt
  refine aA ?_;refine lI 5 (hJ _ (⟨h+1,hlt⟩) ψ) rfl ξ ?_ φ φ ?_
  ·(first|rfl|(simp only [go_sem];done)|(simp only [go_sem];simp only [];done)|(simp only [];done)|(simp only [go_sem];simp [];done)|(simp [];done))
  ·(simp only [go_sem];(repeat' (refine And.intro ?_ ?_))<;>first|exact trivial|with_reducible rfl|(simp only [];done)|(simp only [];with_reducible rfl)|(simp [];done)|(simp [];omega)|(simp only [];rfl)|skip)
 obtain rfl:h=fV f:=ω;by_cases c5:fV f=f.opens.length
 ·rw [xjr (.inr (.inr (.inr (.inr c5))))]
  by_cases c1:k<0
  ·skip
   refine aA ?_;exact aU yQ
  by_cases c2:(f.data.length:Int)≤k
  ·skip
   refine aA ?_;exact aU yQ
  by_cases c3:m<0
  ·skip
   refine aA ?_;exact aU yQ
  by_cases c4:2<m
  ·skip
   refine aA ?_;exact aU yQ
  ·skip
   refine aA ?_;exact aU yQ
 have his:=ym0 (f:=f) ω;by_cases c1:k<0
 ·rw [xjr (.inl c1)]
  refine aA ?_;exact aU yQ
 by_cases c2:(f.data.length:Int)≤k
 ·rw [xjr (.inr (.inl c2))]
  refine aA ?_;exact aU yQ
 by_cases c3:m<0
 ·rw [xjr (.inr (.inr (.inl c3)))]
  refine aA ?_;exact aU yQ
 by_cases c4:2<m
 ·rw [xjr (.inr (.inr (.inr (.inl c4))))]
  refine aA ?_;exact aU yQ
 have hc:¬(k<0∨(f.data.length:Int)≤k∨fV f=f.opens.length):=ω;have c5':fV f<f.opens.length:=ω;have hm:m=0∨m=1∨m=2:=ω;rcases hm with rfl|rfl|rfl
 ·rw [ytv hc]
  refine aA ?_;exact aU yQ
 ·rw [ytw hc]
  refine aA ?_;refine gY [1,2,6,8,9,62] (fun p:{p:Nat // p≤f.opens.length}=>[(63,.int .i64 p.1)]) (fun p=>[⟨.box false 91,true,0,lC f⟩,⟨.box false 91,true,0,.agg [.nilS,.nilS]⟩,⟨.row 66,true,0,.arr 1 ((f.data.map (bD true 4 aS)).set k.toNat .nilS)⟩,⟨.row 295,true,0,.arr 3 ((uO k f.opens p.1).map vO)⟩,⟨.box false 91,true,0,.agg [.own 2 0,.own 3 0]⟩]) (fun p=>f.opens.length-p.1) (⟨0,by simp⟩) 5 τ ?_ (by first|rfl|(simp only [go_sem];done)|(simp only [go_sem];simp [xos];done)) ξ φ φ (by first|rfl|(simp only [go_sem];done)|(simp only [xos];(try simp only [go_sem]);first|done|rfl)) ?_
  ·(simp only [go_sem];(try simp [xos]);done)
  intro J hJ
  rintro⟨p,hp⟩
  have hcl:=xoq k f.opens p;by_cases hlt:p<f.opens.length
  ·have ha:=xut (k:=k) hlt
   by_cases ck:f.opens[p]!.file=k
   ·have hs:=yhr hlt ck
    rw [ck] at hs;refine aY (And.intro ha (ck)) ?_;exact rQ (hJ _ (⟨p+1,hlt⟩) ψ) hs
   ·have hs:=yhq hlt ck
    refine aY ha ?_;exact rQ (hJ _ (⟨p+1,hlt⟩) ψ) hs
  ·obtain rfl:p=f.opens.length:=ω
   have he:=yhp k f.opens;have hml:(f.opens.map (zr k)).length=f.opens.length:=by simp
   dsimp only;rw [he];refine aA ?_;refine xds 2 ((f.data.set k.toNat []).map (bD true 4 aS)) rfl (yvz _ _ _ _ _) (bV _ _) (mQ (f:=bD true 4 aS) (s:=1) (fun _=>rfl) _) ?_;exact aU yQ
 ·rw [ytx hc]
  have hsa:(f.opens.set (fV f) ⟨k,0,true⟩)[fV f]! =⟨k,0,true⟩:=by rw [xnd c5',if_pos rfl]
  have hsl:(f.opens.set (fV f) ⟨k,0,true⟩).length=f.opens.length:=List.length_set;refine aY hsa ?_;refine ret yQ [] ?_;(first|(simp only [go_sem];done)|(simp only [go_sem];((try dsimp only);(repeat' (refine And.intro ?_ ?_))<;>first|with_reducible rfl|(simp only [go_sem];done)|(simp only [go_sem];rfl)|(simp only [go_sem,List.set_set];done)|(simp only [List.set_set];(try simp only [go_sem]);first|done|rfl)|(simp only [go_sem];simp [List.set_set];done)|(simp [List.set_set];done)|rfl)))
end Go.Proofs.YthmjocibdepahaaGreat
namespace Go.Proofs.YthmjocibdepahaaGreat
open Go Go.RowKit Rdn Rdn.Dp
def yoi:=aC 112
def yo3:=aC 187
def xqq:=aC 144
def xy8:=aC 111
def xqg:=aC 163
def xye:=aC 110
def xm5:=aC 50
theorem xuj (c:Canon) {M:Prop} (a0:c.tag=0→c.region≠0→M) (a1:c.tag=0→c.region=0→c.offset≠0→M) (a2:c.tag=0→c.region=0→c.offset=0→M) (a3:c.tag=2→c.region≠0→M) (a4:c.tag=2→c.region=0→c.offset≠0→M) (a5:c.tag=2→c.region=0→c.offset=0→M) (a6:c.tag≠0→c.tag≠1→c.tag≠2→M) (a7:c.tag=1→c.region=-1→c.offset<0→c.val≠0→M) (a8:c.tag=1→c.region=-1→c.offset<0→c.val=0→M) (a9:c.tag=1→c.region=-1→0≤c.offset→65535<c.offset→c.val≠0→M) (a10:c.tag=1→c.region=-1→0≤c.offset→65535<c.offset→c.val=0→M) (a11:c.tag=1→c.region=-1→0≤c.offset→c.offset≤65535→c.val≠0→M) (a12:c.tag=1→c.region=-1→0≤c.offset→c.offset≤65535→c.val=0→M) (a13:c.tag=1→c.region≠-1→c.val≠0→M) (a14:c.tag=1→c.region≠-1→c.region<0→c.val=0→M) (a15:c.tag=1→4≤c.region→c.val=0→M) (a16:c.tag=1→0≤c.region→c.region<4→c.offset<0→c.val=0→M) (a17:c.tag=1→0≤c.region→c.region<4→0≤c.offset→32≤c.offset→c.val=0→M) (a18:c.tag=1→0≤c.region→c.region<4→0≤c.offset→c.offset<32→c.val=0→M):M:=by
 by_cases t0:c.tag=0
 ·by_cases r:c.region=0
  ·by_cases o:c.offset=0
   ·exact a2 ω ω ω
   ·exact a1 ω ω ω
  ·exact a0 ω ω
 by_cases t2:c.tag=2
 ·by_cases r:c.region=0
  ·by_cases o:c.offset=0
   ·exact a5 ω ω ω
   ·exact a4 ω ω ω
  ·exact a3 ω ω
 by_cases t1:c.tag=1
 ·by_cases r:c.region=-1
  ·by_cases o:c.offset<0
   ·by_cases v:c.val=0
    ·exact a8 ω ω ω ω
    ·exact a7 ω ω ω ω
   by_cases o2:c.offset≤65535
   ·by_cases v:c.val=0
    ·exact a12 ω ω ω ω ω
    ·exact a11 ω ω ω ω ω
   ·by_cases v:c.val=0
    ·exact a10 ω ω ω ω ω
    ·exact a9 ω ω ω ω ω
  by_cases v:c.val=0
  ·by_cases r1:c.region<0
   ·exact a14 ω ω ω ω
   by_cases r2:c.region<4
   ·by_cases o:c.offset<0
    ·exact a16 ω ω ω ω ω
    by_cases o2:c.offset<32
    ·exact a18 ω ω ω ω ω ω
    ·exact a17 ω ω ω ω ω ω
   ·exact a15 ω ω ω
  ·exact a13 ω ω ω
 ·exact a6 ω ω ω
theorem yxn (c:Canon):Fnc Tryz.prog 112 [aS c] (fun x obs=>x=.bool (iH c)∧obs=[]):=by
 refine xuj c ?_ ?_ ?_ ?_ ?_ ?_ ?_ ?_ ?_ ?_ ?_ ?_ ?_ ?_ ?_ ?_ ?_ ?_ ?_
 all_goals
  intros
  first
   |rw [show iH c=true from aN (by unfold okC;omega)]
   |rw [show iH c=false from aJ (by unfold okC;omega)]
  exact aZ yoi
theorem yce (c:Canon):Fnc Tryz.prog 187 [aS c] (fun x obs=>x=.bool (iH c)∧obs=[]):=by
 refine xuj c ?_ ?_ ?_ ?_ ?_ ?_ ?_ ?_ ?_ ?_ ?_ ?_ ?_ ?_ ?_ ?_ ?_ ?_ ?_
 all_goals
  intros
  first
   |rw [show iH c=true from aN (by unfold okC;omega)]
   |rw [show iH c=false from aJ (by unfold okC;omega)]
  exact aZ yo3
def zL (c:Canon):Bool:=!iH c
theorem yh4 (c:Canon):Fnc Tryz.prog 111 [aS c] (fun x obs=>x=.bool (zL c)∧obs=[]):=by
 have hr:zL c=!iH c:=rfl;refine iR xy8 (yxn c) fun W S=>?_;exact aX xy8 hr
theorem ymb (l:List Canon):Fnc Tryz.prog 163 [.sl false 4 (l.map aS),.fn 111] (fun x obs=>x=.int .i64 (rV zL l)∧obs=[]):=by
 refine Fnc.wf fun hw=>?_;have hm:l.length≤140737488355328:=by
  have:=hw.1;simp only [V.wf,List.length_map] at this;exact this.2
 clear hw;refine aI xqg fun W S=>?_;refine bI [0,1,7] (fun p:{p:Nat // p≤l.length∧∀j,j<p→zL l[j]! =false}=>[(8,.int .i64 p.1)]) (fun _=>[]) (fun p=>l.length-p.1) (⟨0,by simp⟩) 0 ?_;intro J hJ
 rintro⟨k,hk0,hk1⟩
 by_cases hlt:k<l.length
 ·have hc:=yh4 l[k]!
  cases hb:zL l[k]! with
  |true=>
   rw [hb] at hc;have hr:=xcp (p:=zL) hlt hk1 hb;refine aA ?_;refine mW (hc) ?_;exact aX xqg hr
  |false=>
   rw [hb] at hc;have hS:∀j,j<k+1→zL l[j]! =false:=fun j hj=>by
    by_cases e:j=k
    ·subst e;exact hb
    ·exact hk1 j ω
   refine aA ?_;refine mW (hc) ?_;exact nP (hJ _ (⟨k+1,hlt,hS⟩) ψ) hlt
 ·obtain rfl:k=l.length:=ω
  have hr:=xdv (p:=zL) hk1;refine aA ?_;exact aX xqg hr
theorem yi1 (l:List Canon):Fnc Tryz.prog 110 [.sl false 4 (l.map aS),.fn 111] (fun x obs=>x=.bool (l.any zL)∧obs=[]):=by
 have hr:=xey zL l;refine iR xye (ymb l) fun W S=>?_;exact aX xye hr
theorem yfy (l:List Canon):l.any zL=!l.all iH:=by
 induction l with
 |nil=>rfl
 |cons a l ih=>simp only [List.any_cons,List.all_cons,ih,zL,Bool.not_and]
theorem yfg (l:List Canon) (n:Int):Fnc Tryz.prog 50 [.sl false 4 (l.map aS),.int .i64 n] (fun x obs=>x=.bool (fD l n)∧obs=[]):=by
 have hc:=yi1 l;rw [yfy] at hc;by_cases c:(l.length:Int)≤n
 ·have hr:fD l n=!!l.all iH:=by unfold fD;rw [aN c];simp
  refine iR xm5 hc fun W S=>?_;exact aX xm5 hr
 ·have hr:fD l n=false:=by unfold fD;rw [aJ c];simp
  refine aI xm5 fun W S=>?_;exact aX xm5 hr
theorem xea (l:List Canon) (n:Int):Fnc Tryz.prog 144 [.sl false 4 (l.map aS),.int .i64 n] (fun x obs=>x=.bool (fD l n)∧obs=[]):=by
 refine Fnc.wf fun hw=>?_;have hm:l.length≤140737488355328:=by
  have:=hw.1;simp only [V.wf,List.length_map] at this;exact this.2
 clear hw;refine aI xqq fun W S=>?_;refine bI [0,1,7,8] (fun p:{p:Nat // p≤l.length∧∀j,j<p→iH l[j]! =true}=>[(9,.int .i64 p.1)]) (fun _=>[]) (fun p=>l.length-p.1) (⟨0,by simp⟩) 0 ?_;intro J hJ
 rintro⟨k,hk0,hk1⟩
 by_cases hlt:k<l.length
 ·have hc:=yce l[k]!
  cases hb:iH l[k]! with
  |true=>
   rw [hb] at hc;have hS:∀j,j<k+1→iH l[j]! =true:=fun j hj=>by
    by_cases e:j=k
    ·subst e;exact hb
    ·exact hk1 j ω
   refine aA ?_;refine aF (hc) ?_;exact nP (hJ _ (⟨k+1,hlt,hS⟩) ψ) hlt
  |false=>
   rw [hb] at hc;have hr:fD l n=false:=by
    unfold fD;have:l.all iH=false:=List.all_eq_false.2 ⟨_,kE hlt,by rw [hb];simp⟩;rw [this];rfl
   refine aA ?_;refine aF (hc) ?_;exact aX xqq hr
 ·obtain rfl:k=l.length:=ω
  have ha:l.all iH=true:=List.all_eq_true.2 fun x hx=>by
   obtain⟨j,hj,rfl⟩:=xg2 hx;exact hk1 j hj
  have hr:fD l n=decide ((l.length:Int)≤n):=by unfold fD;rw [ha];rfl
  refine aA ?_;exact aX xqq hr
end Go.Proofs.YthmjocibdepahaaGreat
namespace Go.Proofs.YthmjocibdepahaaGreat
open Go Go.RowKit Rdn Rdn.Dp
def xe5:=aC 221
theorem yha (l:List Canon):fD l l.length=l.all iH:=by unfold fD;rw [aN (Int.le_refl _),Bool.and_true]
theorem yqx {D c:List Canon} {a i:Nat} (ha:a≤D.length) (hi:i<c.length) (h:a+i<D.length):(over D a (c.take i)).set (a+i) c[i]! =over D a (c.take (i+1)):=by
 have h1:(D.take a).length=a:=by rw [List.length_take];omega
 have h2:(c.take i).length=i:=by rw [List.length_take];omega
 have h3:(c.take (i+1)).length=i+1:=by rw [List.length_take];omega
 unfold over;rw [List.set_append_right _ _ (by rw [List.length_append];omega),h2,h3,List.length_append,h1,h2,Nat.sub_self,jG hi];have e:D.drop (a+i)=D[a+i]!::D.drop (a+(i+1)):=by rw [getElem!_pos D (a+i) h];exact(List.getElem_cons_drop h).symm
 rw [e,List.set_cons_zero];simp
theorem yqu {D c:List Canon} {a i:Nat} (ha:a≤D.length) (hi:i<c.length) (h:¬a+i<D.length):over D a (c.take i)++[c[i]!]=over D a (c.take (i+1)):=by
 unfold over;rw [jG hi,List.drop_of_length_le (by rw [List.length_take];omega),List.drop_of_length_le (by simp;omega)];simp
theorem xjh (D:List Canon) (a:Nat):over D a []=D:=by simp [over]
theorem yud {f:Files} {h:Int} {c:List Canon} (k:nY f h) (c1:f.opens[h.toNat]!.write=true) (c2:c.all iH=true):nM f h c=(⟨f.data.set f.opens[h.toNat]!.file.toNat (over (dat f h) f.opens[h.toNat]!.offset.toNat (c.take (sN f h c).toNat)),zC f h (f.opens[h.toNat]!.offset+sN f h c)⟩,sN f h c,true):=by unfold nM;exact if_pos ⟨k,c1,c2⟩
theorem ydf {f:Files} {h:Int} {c:List Canon} (k:¬(nY f h∧f.opens[h.toNat]!.write=true∧c.all iH=true)):nM f h c=(f,0,false):=by unfold nM;exact if_neg k
attribute [local irreducible] nM zC dat sN over
theorem yto (f:Files) (F:FitF f) (h:Int) (c:List Canon) (hc:c.length≤100000):Fnc Tryz.prog 221 [lC f,.int .i64 h,.sl false 4 (c.map aS)] (fun y obs=>y=.tup [lC (nM f h c).1,.int .i64 (nM f h c).2.1,.bool (nM f h c).2.2]∧obs=[]):=by
 refine Fnc.low ?_;have fO:=xn3 f F h;have fC:=xea c c.length;rw [yha] at fC;by_cases k:nY f h
 ·have ha:=F.at k
  rw [aN k] at fO;obtain⟨i,hi⟩:∃i:Nat,h=i:=⟨h.toNat,by have:=k.1;omega⟩;subst hi;have hT:=@yud f i c k;have hF:=@ydf f i c;rw [Int.toNat_natCast] at ha hT hF;have hd:=xou f i;obtain⟨c2,c3⟩:=xrm k;cases c5:f.opens[i]!.write with
  |false=>
   rw [hF (fun k=>by rw [c5] at k;cases k.2.1)];refine aI xe5 fun W S=>?_;refine dD (xP f F.low) ?_;refine bZ (fO) ?_;refine aY c5 ?_;exact aU xe5
  |true=>
   cases c6:c.all iH with
   |false=>
    rw [c6] at fC;rw [hF (fun k=>by rw [c6] at k;cases k.2.2)];refine aI xe5 fun W S=>?_;refine dD (xP f F.low) ?_;refine bZ (fO) ?_;refine aY c5 ?_;exact qV fC xe5
   |true=>
    rw [c6] at fC;rw [hT c5 c6];obtain⟨D,hD⟩:∃D,f.data[f.opens[i]!.file.toNat]! =D:=⟨_,rfl⟩;have hRJ:=ysb f F.low f.opens[i]!.file.toNat ω;rw [hD] at hd hRJ;rw [hd] at ha⊢;have hm:(if 64-f.opens[i]!.offset<(c.length:Int) then 64-f.opens[i]!.offset else(c.length:Int))=sN f i c:=by
     unfold sN;rw [Int.toNat_natCast];split<;>omega
    obtain⟨K,hK⟩:∃K:Nat,sN f i c=K:=⟨(sN f i c).toNat,by rw [←hm];split<;>omega⟩;have hKc:K≤c.length:=by rw [hK] at hm;split at hm<;>omega
    have hK64:f.opens[i]!.offset+K≤64:=by rw [hK] at hm;split at hm<;>omega
    have ho:=xsi f i (f.opens[i]!.offset+K);rw [hK,Int.toNat_natCast];rw [hK] at hm;obtain⟨j,hj⟩:∃j:Nat,f.opens[i]!.file=j:=⟨f.opens[i]!.file.toNat,ω⟩;obtain⟨a,haa⟩:∃a:Nat,f.opens[i]!.offset=a:=⟨f.opens[i]!.offset.toNat,ω⟩;rw [hj] at hRJ ha ho;rw [haa] at ha ho hm hK64;rw [hj,haa,Int.toNat_natCast,Int.toNat_natCast];rw [Int.toNat_natCast] at hRJ;have hjl:j<f.data.length:=ω;have hget:((f.data.map (bD true 4 aS)).set j (.own 4 0)).getD j V.junk=.own 4 0:=by simp [List.getD_eq_getElem?_getD,hjl]
    have hsl:((f.data.map (bD true 4 aS)).set j (.own 4 0)).length=f.data.length:=by simp
    refine aI xe5 fun W S=>?_;refine dD (hRJ) ?_;refine bZ (fO) ?_;refine aY c5 ?_;refine bZ (fC) ?_
    repeat(first|(simp only [c5,hj,haa,hm,hget,hsl];try simp only [go_sem])|refine And.intro ω ?_|refine And.intro rfl ?_|refine gJ rfl rfl ?_|refine bY ?_|refine dI κ ?_|(simp (disch:=omega) only [fJ,Nat.min_eq_left,Nat.min_eq_right,if_pos,if_neg,fF,bW,dU,fH,fM,fK,aN,aJ,dB,dA,dP,dO,Int.toNat_natCast];try simp only [go_sem])|(refine dR rfl ?_ ?_;·(simp<;>omega))|(refine dZ rfl ?_ ?_;·(simp<;>omega))|((first|refine fQ ?_|refine gK rfl ?_|refine mZ rfl ?_|refine jJ aT rfl κ ?_|refine jK aT rfl κ ?_|refine jL aT rfl κ ?_);simp only [go_sem]))
    refine gY [2,6,9,10,11,57] (fun p:{p:Nat // p≤K}=>[(12,.own 4 ((over D a (c.take p.1)).length-D.length)),(58,.int .i64 p.1)]) (fun p=>[⟨.box false 91,true,0,lC f⟩,⟨.box false 91,true,0,.agg [.nilS,.nilS]⟩,⟨.rows false 66,true,0,.arr 1 ((f.data.map (bD true 4 aS)).set j (.own 4 0))⟩,⟨.row 295,true,0,.arr 3 (f.opens.map vO)⟩,⟨.row 104,true,(over D a (c.take p.1)).length-D.length,.arr 4 ((over D a (c.take p.1)).map aS)⟩,⟨.box false 91,true,0,.agg [.own 2 0,.own 3 0]⟩]) (fun p=>K-p.1) (⟨0,by simp⟩) 6 τ ?_ (by first|rfl|(simp only [go_sem];done)|(simp only [go_sem];simp [xjh,Nat.sub_self];done)) ξ φ φ (by first|rfl|(simp only [go_sem];done)|(simp only [xjh,Nat.sub_self];(try simp only [go_sem]);first|done|rfl)) ?_
    ·(simp only [go_sem];(try simp [xjh,Nat.sub_self]);done)
    intro J hJ
    rintro⟨p,hp⟩
    have hlo:=xjg (d:=D) (c:=c.take p) (a:=a) ω;rw [List.length_take,Nat.min_eq_left ω] at hlo;by_cases hlt:p<K
    ·have hlo1:=xjg (d:=D) (c:=c.take (p+1)) (a:=a) ω
     rw [List.length_take,Nat.min_eq_left ω] at hlo1;by_cases cb:a+p<D.length
     ·have hs:=yqx (c:=c) (i:=p) (D:=D) (a:=a) ω ω cb
      have hg:(over D a (c.take (p+1))).length-D.length=(over D a (c.take p)).length-D.length:=ω;have hap:((a:Int)+(p:Int)).toNat=a+p:=ω
      repeat(first|(simp only [hj,haa,hap];try simp only [go_sem])|refine And.intro ω ?_|refine And.intro rfl ?_|refine gJ rfl rfl ?_|refine bY ?_|refine dI κ ?_|(simp (disch:=omega) only [fJ,Nat.min_eq_left,Nat.min_eq_right,if_pos,if_neg,fF,bW,dU,fH,fM,fK,aN,aJ,dB,dA,dP,dO,Int.toNat_natCast];try simp only [go_sem])|(refine dR rfl ?_ ?_;·(simp<;>omega))|(refine dZ rfl ?_ ?_;·(simp<;>omega))|((first|refine fQ ?_|refine gK rfl ?_|refine mZ rfl ?_|refine jJ aT rfl κ ?_|refine jK aT rfl κ ?_|refine jL aT rfl κ ?_);simp only [go_sem]))
      exact zn6 (hJ _ (⟨p+1,hlt⟩) ψ) (And.intro hs (hg))
     ·have hs:=yqu (c:=c) (i:=p) (D:=D) (a:=a) ω ω cb
      have hg:(over D a (c.take (p+1))).length-D.length=(over D a (c.take p)).length-D.length+1:=ω
      repeat(first|(simp only [hj,haa];try simp only [go_sem])|refine And.intro ω ?_|refine And.intro rfl ?_|refine gJ rfl rfl ?_|refine bY ?_|refine dI κ ?_|(simp (disch:=omega) only [fJ,Nat.min_eq_left,Nat.min_eq_right,if_pos,if_neg,fF,bW,dU,fH,fM,fK,aN,aJ,dB,dA,dP,dO,Int.toNat_natCast];try simp only [go_sem])|(refine dR rfl ?_ ?_;·(simp<;>omega))|(refine dZ rfl ?_ ?_;·(simp<;>omega))|((first|refine fQ ?_|refine gK rfl ?_|refine mZ rfl ?_|refine jJ aT rfl κ ?_|refine jK aT rfl κ ?_|refine jL aT rfl κ ?_);simp only [go_sem]))
      exact zn6 (hJ _ (⟨p+1,hlt⟩) ψ) (And.intro hs (hg))
    ·obtain rfl:p=K:=ω
     repeat(first|(simp only [hj,haa,hsl,hget];try simp only [go_sem])|refine And.intro ω ?_|refine And.intro rfl ?_|refine gJ rfl rfl ?_|refine bY ?_|refine dI κ ?_|(simp (disch:=omega) only [fJ,Nat.min_eq_left,Nat.min_eq_right,if_pos,if_neg,fF,bW,dU,fH,fM,fK,aN,aJ,dB,dA,dP,dO,Int.toNat_natCast];try simp only [go_sem])|(refine dR rfl ?_ ?_;·(simp<;>omega))|(refine dZ rfl ?_ ?_;·(simp<;>omega))|((first|refine fQ ?_|refine gK rfl ?_|refine mZ rfl ?_|refine jJ aT rfl κ ?_|refine jK aT rfl κ ?_|refine jL aT rfl κ ?_);simp only [go_sem]))
     have hq:((((f.data.map (bD true 4 aS)).set j (.own 4 0)).set j (.own 4 ((over D a (c.take p)).length-D.length))).set j (V.sl true 4 ((over D a (c.take p)).map aS)))=(f.data.set j (over D a (c.take p))).map (bD true 4 aS):=by rw [List.set_set,List.set_set,ydr]
     refine xi6 2 j 4 rfl rfl (by simp [hjl]) ?_;simp only [hq,List.set_cons_zero,List.set_cons_succ];refine fG 2 rfl (bV _ _) ?_;exact aX xe5 ho
 ·rw [aJ k] at fO
  rw [ydf (fun q=>k q.1)];refine aI xe5 fun W S=>?_;refine dD (xP f F.low) ?_;exact qV fO xe5
end Go.Proofs.YthmjocibdepahaaGreat
namespace Go.Proofs.YthmjocibdepahaaGreat
open Go Go.RowKit Rdn Rdn.Dp
def xg8:List Opn:=[xR,xR,xR,xR,xR,xR,xR,xR]
def ybd (data:List (List Int)):Prop:=data=[]∨(data.length≤4∧∀x∈data,x.length≤64)
instance (data:List (List Int)):Decidable (ybd data):=by unfold ybd;exact inferInstance
attribute [local irreducible] xg8 mF
end Go.Proofs.YthmjocibdepahaaGreat
