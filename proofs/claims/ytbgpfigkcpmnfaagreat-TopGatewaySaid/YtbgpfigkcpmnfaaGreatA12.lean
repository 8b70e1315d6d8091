import Derived.Test.YtbgpfigkcpmnfaaGreatA8
import Derived.Test.YtbgpfigkcpmnfaaGreatA5
import Derived.Test.YtbgpfigkcpmnfaaGreatA6
import Derived.Test.YtbgpfigkcpmnfaaGreatA9
set_option linter.unusedSimpArgs false
set_option linter.unusedVariables false
set_option maxHeartbeats 64000000
set_option maxRecDepth 100000
namespace Go.Proofs.YtbgpfigkcpmnfaaGreat
open Go Go.RowKit Rdn Rdn.Dp
instance :Inhabited Opn:=⟨⟨0,0,false⟩⟩
instance :Inhabited Files:=⟨⟨[],[]⟩⟩
abbrev opnV (o:Opn):V:=.agg [.int .i64 o.file,.int .i64 o.offset,.bool o.write]
instance :Lo opnV opnV:=⟨fun _=>rfl,fun _=>rfl⟩
abbrev cnV (t:Bool):List Canon→V:=slV' t 4 xaf
abbrev filV (f:Files):V:=.agg [.sl false 1 (f.data.map (slV' false 4 xaf)),.sl false 3 (f.opens.map opnV)]
theorem xsp (l:List Opn):V.freshs (l.map opnV)=true:=xgb _ _ (fun _=>rfl)
theorem xvy (l:List (List Canon)):V.freshs (l.map (slV' true 4 xaf))=true:=xgb _ _ (fun x=>by simp [slV',V.fresh,xjc])
theorem yic (l:List Opn) (i:Nat) (a b:Int) (c:Bool):(l.map opnV).set i (.agg [.int .i64 a,.int .i64 b,.bool c])=(l.set i ⟨a,b,c⟩).map opnV:=by rw [List.map_set]
theorem ydj (l:List Opn) (a b:Int) (c:Bool) (r:List V):l.map opnV++(V.agg [.int .i64 a,.int .i64 b,.bool c]::r)=(l++[(⟨a,b,c⟩:Opn)]).map opnV++r:=by simp
theorem yaa {α:Type} (t:Bool) (s:Nat) (f:α→V) (l:List (List α)) (i:Nat) (d:List α):(l.map (slV' t s f)).set i (V.sl t s (d.map f))=(l.set i d).map (slV' t s f):=by rw [List.map_set]
theorem yay (l:List Canon) (n:Nat):(l.map xaf).take n=(l.take n).map xaf:=by rw [List.map_take]
theorem xxi (l:List Canon) (n:Nat):(l.map xaf).drop n=(l.drop n).map xaf:=by rw [List.map_drop]
attribute [go_sem] yay xxi List.take_length xsp xvy yic ydj yaa
def okC (c:Canon):Prop:=((c.tag=0∨c.tag=2)∧c.region=0∧c.offset=0)∨(c.tag=1∧c.val=0∧((c.region=-1∧0≤c.offset∧c.offset≤65535)∨(0≤c.region∧c.region<4∧0≤c.offset∧c.offset<32)))
instance (c:Canon):Decidable (okC c):=by unfold okC;exact inferInstance
def xcw (c:Canon):Bool:=decide (okC c)
def xba (l:List Canon) (n:Int):Bool:=l.all xcw && decide ((l.length:Int)≤n)
def shut:Opn:=⟨-1,0,false⟩
def okO (f:Files) (o:Opn):Prop:=(o.file=-1∧o.offset=0∧o.write=false)∨(0≤o.file∧o.file<f.data.length∧0≤o.offset∧o.offset≤f.data[o.file.toNat]!.length)
structure FitF (f:Files):Prop where
 d:f.data.length≤4
 o:f.opens.length=8
 len:∀x∈f.data,x.length≤64
 cell:∀x∈f.data,x.all xcw=true
 ok:∀o∈f.opens,okO f o
def hdl (f:Files):Nat:=f.opens.findIdx fun o=>decide (o.file=-1)
def zr (k:Int) (o:Opn):Opn:=if o.file=k then⟨o.file,0,o.write⟩ else o
def xes (f:Files) (k m:Int):Files×Int:=
 if k<0∨(f.data.length:Int)≤k∨m<0∨2<m∨hdl f=f.opens.length then(f,-1)
 else if m=0 then(⟨f.data,f.opens.set (hdl f) ⟨k,0,false⟩⟩,hdl f)
 else if m=1 then(⟨f.data.set k.toNat [],(f.opens.map (zr k)).set (hdl f) ⟨k,0,true⟩⟩,hdl f)
 else(⟨f.data,f.opens.set (hdl f) ⟨k,f.data[k.toNat]!.length,true⟩⟩,hdl f)
def opd (f:Files) (h:Int):Prop:=0≤h∧h<f.opens.length∧f.opens[h.toNat]!.file≠-1
instance (f:Files) (h:Int):Decidable (opd f h):=by unfold opd;exact inferInstance
def dat (f:Files) (h:Int):List Canon:=f.data[f.opens[h.toNat]!.file.toNat]!
def xdu (f:Files) (h:Int):Files×Bool:=if opd f h then(⟨f.data,f.opens.set h.toNat shut⟩,true) else(f,false)
def xgn (f:Files) (h x:Int):List Opn:=f.opens.set h.toNat ⟨f.opens[h.toNat]!.file,x,f.opens[h.toNat]!.write⟩
def xgl (f:Files) (h x:Int):Files×Bool:=if opd f h∧0≤x∧x≤(dat f h).length then(⟨f.data,xgn f h x⟩,true) else(f,false)
def rdn (f:Files) (h n:Int):Int:=min n ((dat f h).length-f.opens[h.toNat]!.offset)
def xda (f:Files) (h n:Int):Files×List Canon×Bool:=
 if opd f h∧0≤n∧f.opens[h.toNat]!.write=false then(⟨f.data,xgn f h (f.opens[h.toNat]!.offset+rdn f h n)⟩,((dat f h).drop f.opens[h.toNat]!.offset.toNat).take (rdn f h n).toNat,true) else(f,[],false)
def wrn (f:Files) (h:Int) (c:List Canon):Int:=min c.length (64-f.opens[h.toNat]!.offset)
def over (d:List Canon) (a:Nat) (c:List Canon):List Canon:=d.take a++c++d.drop (a+c.length)
def xcb (f:Files) (h:Int) (c:List Canon):Files×Int×Bool:=
 if opd f h∧f.opens[h.toNat]!.write=true∧c.all xcw=true then(⟨f.data.set f.opens[h.toNat]!.file.toNat (over (dat f h) f.opens[h.toNat]!.offset.toNat (c.take (wrn f h c).toNat)),xgn f h (f.opens[h.toNat]!.offset+wrn f h c)⟩,wrn f h c,true) else(f,0,false)
theorem xnp {α:Type} [Inhabited α] {l:List α} {x:α} (h:x∈l):∃k,k<l.length∧l[k]! =x:=by
 obtain⟨k,hk,rfl⟩:=List.getElem_of_mem h;exact⟨k,hk,getElem!_pos l k hk⟩
theorem xvb {α:Type} [Inhabited α] {l:List α} {i j:Nat} {x:α} (h:j<l.length):(l.set i x)[j]! =if i=j then x else l[j]!:=by
 rw [getElem!_pos _ j (by simpa using h),getElem!_pos l j h,List.getElem_set]
theorem FitF.at {f:Files} (F:FitF f) {h:Int} (c:opd f h):0≤f.opens[h.toNat]!.file∧f.opens[h.toNat]!.file<f.data.length∧0≤f.opens[h.toNat]!.offset∧f.opens[h.toNat]!.offset≤(dat f h).length∧(dat f h).length≤64:=by
 obtain⟨c1,c2,c3⟩:=c;have hl:h.toNat<f.opens.length:=by omega
 rcases F.ok _ (xc9 hl) with h1|h1
 ·exact absurd h1.1 c3
 ·exact⟨h1.1,h1.2.1,h1.2.2.1,h1.2.2.2,F.len _ (xc9 (by omega))⟩
theorem xt4 {f g:Files} (hl:g.data.length=f.data.length) {o:Opn} (hd:∀k:Nat,(k:Int)=o.file→k<f.data.length→f.data[k]!.length≤g.data[k]!.length) (h:okO f o):okO g o:=by
 rcases h with h|⟨h1,h2,h3,h4⟩
 ·exact .inl h
 ·have:=hd o.file.toNat (by omega) (by omega)
  exact .inr ⟨h1,by omega,h3,by omega⟩
theorem yc7 {f g:Files} (hd:g.data=f.data) {o:Opn} (h:okO f o):okO g o:=xt4 (by rw [hd]) (fun k _ _=>by rw [hd];exact Nat.le_refl _) h
theorem FitF.opens {f:Files} (F:FitF f) {l:List Opn} (hl:l.length=8) (ho:∀o∈l,okO f o):FitF ⟨f.data,l⟩:=⟨F.d,hl,F.len,F.cell,fun o h=>yc7 rfl (ho o h)⟩
theorem FitF.close {f:Files} (F:FitF f) (h:Int):FitF (xdu f h).1:=by
 unfold xdu;split
 ·refine F.opens (by rw [List.length_set];exact F.o) fun o ho=>?_
  rcases List.mem_or_eq_of_mem_set ho with ho|rfl
  ·exact F.ok o ho
  ·exact .inl ⟨rfl,rfl,rfl⟩
 ·exact F
theorem FitF.off {f:Files} (F:FitF f) {h x:Int} (c:opd f h) (h0:0≤x) (h1:x≤(dat f h).length):FitF ⟨f.data,xgn f h x⟩:=by
 have ha:=F.at c;refine F.opens (by unfold xgn;rw [List.length_set];exact F.o) fun o ho=>?_;rcases List.mem_or_eq_of_mem_set ho with ho|rfl
 ·exact F.ok o ho
 ·exact .inr ⟨ha.1,ha.2.1,h0,h1⟩
theorem FitF.seek {f:Files} (F:FitF f) (h x:Int):FitF (xgl f h x).1:=by
 unfold xgl;split
 ·rename_i c
  exact F.off c.1 c.2.1 c.2.2
 ·exact F
theorem FitF.read {f:Files} (F:FitF f) (h n:Int):FitF (xda f h n).1:=by
 unfold xda;split
 ·rename_i c
  have ha:=F.at c.1;exact F.off c.1 (by unfold rdn;omega) (by unfold rdn;omega)
 ·exact F
theorem xjk {d c:List Canon} {a:Nat} (h:a≤d.length):(over d a c).length=max d.length (a+c.length):=by
 unfold over;simp only [List.length_append,List.length_take,List.length_drop];omega
theorem FitF.data {f:Files} (F:FitF f) {k:Nat} {d:List Canon} {l:List Opn} (hk:k<f.data.length) (hd:d.length≤64) (hc:d.all xcw=true) (hl:l.length=8) (ho:∀o∈l,okO ⟨f.data.set k d,l⟩ o):FitF ⟨f.data.set k d,l⟩:=by
 refine⟨by show(f.data.set k d).length≤4;rw [List.length_set];exact F.d,hl,fun x hx=>?_,fun x hx=>?_,ho⟩
 ·rcases List.mem_or_eq_of_mem_set hx with hx|rfl
  ·exact F.len x hx
  ·exact hd
 ·rcases List.mem_or_eq_of_mem_set hx with hx|rfl
  ·exact F.cell x hx
  ·exact hc
theorem FitF.write {f:Files} (F:FitF f) (h:Int) (c:List Canon):FitF (xcb f h c).1:=by
 unfold xcb;split
 ·rename_i hc
  have ha:=F.at hc.1;have hk:f.opens[h.toNat]!.file.toNat<f.data.length:=by omega
  have hw:(c.take (wrn f h c).toNat).length=(wrn f h c).toNat:=by rw [List.length_take];unfold wrn;omega
  have hl:=xjk (d:=dat f h) (c:=c.take (wrn f h c).toNat) (a:=f.opens[h.toNat]!.offset.toNat) (by omega);rw [hw] at hl;have hwr:wrn f h c≤64-f.opens[h.toNat]!.offset∧0≤wrn f h c:=by unfold wrn;omega
  refine F.data hk (by omega) ?_ (by unfold xgn;rw [List.length_set];exact F.o) fun o ho=>?_
  ·have hdc:=F.cell _ (xc9 hk)
   simp only [List.all_eq_true] at hdc hc⊢;intro x hx;unfold over at hx;rcases List.mem_append.1 hx with hx|hx
   ·rcases List.mem_append.1 hx with hx|hx
    ·exact hdc x (List.mem_of_mem_take hx)
    ·exact hc.2.2 x (List.mem_of_mem_take hx)
   ·exact hdc x (List.mem_of_mem_drop hx)
  ·have grow:∀k:Nat,k<f.data.length→f.data[k]!.length≤(f.data.set f.opens[h.toNat]!.file.toNat (over (dat f h) f.opens[h.toNat]!.offset.toNat (c.take (wrn f h c).toNat)))[k]!.length:=by
    intro k hk';rw [xvb hk'];split
    ·rename_i e
     rw [hl,←e];exact Nat.le_max_left _ _
    ·exact Nat.le_refl _
   rcases List.mem_or_eq_of_mem_set ho with ho|rfl
   ·exact xt4 (by simp) (fun k _ hk'=>grow k hk') (F.ok o ho)
   ·refine .inr ⟨ha.1,by simpa using ha.2.1,by show 0≤f.opens[h.toNat]!.offset+_;omega,?_⟩
    show f.opens[h.toNat]!.offset+_≤_;rw [xvb hk,if_pos rfl,hl];omega
 ·exact F
theorem yeo (f:Files):hdl f≤f.opens.length:=List.findIdx_le_length
theorem FitF.open {f:Files} (F:FitF f) (k m:Int):FitF (xes f k m).1:=by
 unfold xes;split
 ·exact F
 rename_i c;simp only [not_or,Int.not_lt,Int.not_le] at c;obtain⟨c1,c2,c3,c4,c5⟩:=c;have hk:k.toNat<f.data.length:=by omega
 split
 ·refine F.opens (by rw [List.length_set];exact F.o) fun o ho=>?_
  rcases List.mem_or_eq_of_mem_set ho with ho|rfl
  ·exact F.ok o ho
  ·exact .inr ⟨c1,c2,Int.le_refl _,Int.natCast_nonneg _⟩
 split
 ·refine F.data hk (by simp) rfl (by simp [F.o]) fun o ho=>?_
  rcases List.mem_or_eq_of_mem_set ho with ho|rfl
  ·obtain⟨o',ho',rfl⟩:=List.mem_map.1 ho
   have h1:=F.ok o' ho';unfold zr;split
   ·rename_i e
    rcases h1 with h1|h1
    ·omega
    ·exact .inr ⟨h1.1,by simpa using h1.2.1,Int.le_refl _,Int.natCast_nonneg _⟩
   ·rename_i e
    refine xt4 (f:=f) (by simp) (fun j hj hj'=>?_) h1;show _≤(f.data.set k.toNat [])[j]!.length;rw [xvb hj'];split
    ·omega
    ·exact Nat.le_refl _
  ·refine .inr ⟨c1,by simpa using c2,Int.le_refl _,Int.natCast_nonneg _⟩
 ·refine F.opens (by rw [List.length_set];exact F.o) fun o ho=>?_
  rcases List.mem_or_eq_of_mem_set ho with ho|rfl
  ·exact F.ok o ho
  ·exact .inr ⟨c1,c2,Int.natCast_nonneg _,Int.le_refl _⟩
end Go.Proofs.YtbgpfigkcpmnfaaGreat
namespace Go.Proofs.YtbgpfigkcpmnfaaGreat
open Go Go.RowKit Rdn Rdn.Dp
structure LowF (f:Files):Prop where
 d:f.data.length≤1000
 o:f.opens.length≤1000
 len:∀x∈f.data,x.length≤100000
theorem FitF.low {f:Files} (F:FitF f):LowF f:=⟨by have:=F.d;omega,by have:=F.o;omega,fun x hx=>by have:=F.len x hx;omega⟩
theorem xcp (f:Files) (F:LowF f):Fnc Tryz.prog 75 [filV f] (fun x obs=>x=.agg [.own 0 0,.own 1 0]∧obs=[⟨.row 65,true,0,.arr 1 (f.data.map (slV' true 4 xaf))⟩,⟨.row 193,true,0,.arr 3 (f.opens.map opnV)⟩]):=by
 refine zcf Tryz.prog 75 fun mz=>?_;have h1:=F.d;have h2:=F.o;refine zgo mz fun W S=>?_;refine xb8 3 0 65 1 rfl rfl (by decide) rfl ?_;refine zlk [2,3,11,12] (fun p:{p:Nat // p≤f.data.length}=>[(13,.int .i64 p.1)]) (fun p=>[⟨.box false 44,true,0,filV f⟩,⟨.box false 44,true,0,.agg [.nilS,.nilS]⟩,⟨.row 193,true,0,.arr 3 (f.opens.map opnV)⟩,⟨.box false 44,true,0,.agg [.own 4 p.1,.own 2 0]⟩,⟨.row 65,true,p.1,.arr 1 ((f.data.take p.1).map (slV' true 4 xaf))⟩]) (fun p=>f.data.length-p.1) (⟨0,by simp⟩) 5 ?_;intro J hJ
 rintro⟨k,hk0⟩
 by_cases hlt:k<f.data.length
 ·have hs:=xbl hlt
  have hb:=F.len _ (xc9 hlt);have hl2:(f.data.take k).length=k:=by rw [List.length_take];omega
  refine zst ?_;exact zn5 (hJ _ (⟨k+1,hlt⟩) (by first|omega|(dsimp only;omega)|(simp;omega))) hs
 ·obtain rfl:k=f.data.length:=by omega
  refine zst ?_;refine retN mz [4,2] ?_;(first|(simp only [go_sem];done)|(simp only [go_sem];((try dsimp only);(repeat' (refine And.intro ?_ ?_))<;>first|with_reducible rfl|(simp only [go_sem];done)|(simp only [go_sem];rfl)|(simp only [go_sem,List.take_length];done)|(simp only [List.take_length];(try simp only [go_sem]);first|done|rfl)|(simp only [go_sem];simp [List.take_length];done)|(simp [List.take_length];done)|rfl)))
attribute [local go_sem] List.length_set
def oJ (f:Files) (j:Nat) (a:List Ob) (p:Nat):List Ob:=if j<p then a++[⟨.rows false 65,true,p,.arr 1 (((f.data.take p).map (slV' true 4 xaf)).set j (.own 5 1))⟩,⟨.row 98,true,1,.arr 4 (f.data[j]!.map xaf)⟩] else a++[⟨.rows false 65,true,p,.arr 1 ((f.data.take p).map (slV' true 4 xaf))⟩]
theorem xil {f:Files} {j p:Nat} {a:List Ob} (h:¬j<p):oJ f j a p=a++[⟨.rows false 65,true,p,.arr 1 ((f.data.take p).map (slV' true 4 xaf))⟩]:=if_neg h
theorem xfl {f:Files} {j p:Nat} {a:List Ob} (h:j<p):oJ f j a p=a++[⟨.rows false 65,true,p,.arr 1 (((f.data.take p).map (slV' true 4 xaf)).set j (.own 5 1))⟩,⟨.row 98,true,1,.arr 4 (f.data[j]!.map xaf)⟩]:=if_pos h
theorem yib {α:Type} [Inhabited α] {l:List α} {g:α→V} {j k:Nat} {x:V} (h:k<l.length) (hj:j<k):((l.take k).map g).set j x++[g l[k]!]=((l.take (k+1)).map g).set j x:=by
 rw [xbl h,List.map_append,List.set_append_left _ _ (by simp;omega)];rfl
theorem yia {α:Type} [Inhabited α] {l:List α} {g:α→V} {k:Nat} {x:V} (h:k<l.length):(l.take k).map g++[x]=((l.take (k+1)).map g).set k x:=by
 rw [xbl h,List.map_append,List.set_append_right _ _ (by simp;omega)];simp [Nat.min_eq_left (Nat.le_of_lt h)]
theorem xzu (f:Files) (F:LowF f) (j:Nat) (hj:j<f.data.length):Fnc Tryz.prog 75 [filV f] (fun x obs=>x=.agg [.own 0 0,.own 1 0]∧obs=[⟨.rows false 65,true,0,.arr 1 ((f.data.map (slV' true 4 xaf)).set j (.own 2 0))⟩,⟨.row 193,true,0,.arr 3 (f.opens.map opnV)⟩,⟨.row 98,true,0,.arr 4 (f.data[j]!.map xaf)⟩]):=by
 refine zcf Tryz.prog 75 fun mz=>?_;have h1:=F.d;have h2:=F.o;refine zgo mz fun W S=>?_;refine xb8 3 0 65 1 rfl rfl (by decide) rfl ?_;refine xa8 4 rfl ?_;refine xay [2,3,11,12] (fun p:{p:Nat // p≤f.data.length}=>[(13,.int .i64 p.1)]) (fun p=>oJ f j [⟨.box false 44,true,0,filV f⟩,⟨.box false 44,true,0,.agg [.nilS,.nilS]⟩,⟨.row 193,true,0,.arr 3 (f.opens.map opnV)⟩,⟨.box false 44,true,0,.agg [.own 4 p.1,.own 2 0]⟩] p.1) (fun p=>f.data.length-p.1) (⟨0,by simp⟩) 5 (by simp only [go_sem];rfl) ?_ (by first|rfl|(simp only [go_sem];done)|(simp only [go_sem];simp [xil (Nat.not_lt_zero j)];done)) (by simp) (by first|rfl|(simp only [go_sem];done)) (by first|rfl|(simp only [go_sem];done)) (by first|rfl|(simp only [go_sem];done)|(simp only [xil (Nat.not_lt_zero j)];(try simp only [go_sem]);first|done|rfl)) ?_
 ·(simp only [go_sem];(try simp [xil (Nat.not_lt_zero j)]);done)
 intro J hJ
 rintro⟨k,hk0⟩
 dsimp only;by_cases hlt:k<f.data.length
 ·have hs:=xbl hlt
  have hb:=F.len _ (xc9 hlt);have hl2:(f.data.take k).length=k:=by rw [List.length_take];omega
  rcases Nat.lt_trichotomy k j with c|c|c
  ·have z1:=xil (f:=f) (j:=j) (p:=k+1) (a:=[]) (by omega)
   rw [xil (by omega)];refine zst ?_;refine xbw 5 (hJ _ (⟨k+1,hlt⟩) (by first|omega|(dsimp only;omega)|(simp;omega))) rfl (by simp) ?_ (by first|rfl|(simp only [go_sem];done)) (by first|rfl|(simp only [go_sem];done)|(simp only [xil (show ¬j<k+1 by omega),hs];(try simp only [go_sem]);first|done|rfl)) ?_
   ·(first|rfl|(simp only [go_sem];done)|(simp only [go_sem];simp only [xil (show ¬j<k+1 by omega),hs];done)|(simp only [xil (show ¬j<k+1 by omega),hs];done)|(simp only [go_sem];simp [xil (show ¬j<k+1 by omega),hs];done)|(simp [xil (show ¬j<k+1 by omega),hs];done))
   ·(simp only [go_sem];(repeat' (refine And.intro ?_ ?_))<;>first|exact trivial|with_reducible rfl|(simp only [xil (show ¬j<k+1 by omega),hs];done)|(simp only [xil (show ¬j<k+1 by omega),hs];with_reducible rfl)|(simp [xil (show ¬j<k+1 by omega),hs];done)|(simp [xil (show ¬j<k+1 by omega),hs];omega)|(simp only [xil (show ¬j<k+1 by omega),hs];rfl)|skip)
  ·subst c
   rw [xil (by omega)];have hs2:(f.data.take k).map (slV' true 4 xaf)++[V.own 5 1]=((f.data.take (k+1)).map (slV' true 4 xaf)).set k (.own 5 1):=yia hlt;refine zso ?_;refine xao (fu:=fu8) xap [3,4] 2 rfl (by kernel_rfl) ?_;simp only [go_sem]
   repeat(first|refine And.intro (by omega) ?_|refine And.intro rfl ?_|refine xd1 rfl rfl ?_|refine xax ?_|refine xbc (by kernel_rfl) ?_|(simp (disch:=omega) only [xbq,Nat.min_eq_left,Nat.min_eq_right,if_pos,if_neg,xb6,xaq,xbv,xen,xeu,xet,decT,decF,beqT,beqF,bneT,bneF,Int.toNat_natCast];try simp only [go_sem])|(refine xas rfl ?_ ?_;·(simp<;>omega))|(refine xaw rfl ?_ ?_;·(simp<;>omega))|((first|refine xb0 ?_|refine xd2 rfl ?_|refine xgt [3,4] rfl ?_|refine xew xap rfl (by kernel_rfl) ?_|refine xex xap rfl (by kernel_rfl) ?_|refine xey xap rfl (by kernel_rfl) ?_);simp only [go_sem]))
   refine xbw 6 (hJ _ (⟨k+1,hlt⟩) (by first|omega|(dsimp only;omega)|(simp;omega))) rfl (by simp) ?_ (by first|rfl|(simp only [go_sem];done)) (by first|rfl|(simp only [go_sem];done)|(simp only [xfl (show k<k+1 by omega),hs2,List.cons_append,List.nil_append];(try simp only [go_sem]);first|done|rfl)) ?_
   ·(first|rfl|(simp only [go_sem];done)|(simp only [go_sem];simp only [xfl (show k<k+1 by omega),hs2,List.cons_append,List.nil_append];done)|(simp only [xfl (show k<k+1 by omega),hs2,List.cons_append,List.nil_append];done)|(simp only [go_sem];simp [xfl (show k<k+1 by omega),hs2,List.cons_append,List.nil_append];done)|(simp [xfl (show k<k+1 by omega),hs2,List.cons_append,List.nil_append];done))
   ·(simp only [go_sem];(repeat' (refine And.intro ?_ ?_))<;>first|exact trivial|with_reducible rfl|(simp only [xfl (show k<k+1 by omega),hs2,List.cons_append,List.nil_append];done)|(simp only [xfl (show k<k+1 by omega),hs2,List.cons_append,List.nil_append];with_reducible rfl)|(simp [xfl (show k<k+1 by omega),hs2,List.cons_append,List.nil_append];done)|(simp [xfl (show k<k+1 by omega),hs2,List.cons_append,List.nil_append];omega)|(simp only [xfl (show k<k+1 by omega),hs2,List.cons_append,List.nil_append];rfl)|skip)
  ·rw [xfl c]
   have hs2:((f.data.take k).map (slV' true 4 xaf)).set j (.own 5 1)++[V.sl true 4 (f.data[k]!.map xaf)]=((f.data.take (k+1)).map (slV' true 4 xaf)).set j (.own 5 1):=yib hlt c;refine zst ?_;refine xbw 6 (hJ _ (⟨k+1,hlt⟩) (by first|omega|(dsimp only;omega)|(simp;omega))) rfl (by simp) ?_ (by first|rfl|(simp only [go_sem];done)) (by first|rfl|(simp only [go_sem];done)|(simp only [xfl (show j<k+1 by omega),hs2,List.cons_append,List.nil_append];(try simp only [go_sem]);first|done|rfl)) ?_
   ·(first|rfl|(simp only [go_sem];done)|(simp only [go_sem];simp only [xfl (show j<k+1 by omega),hs2,List.cons_append,List.nil_append];done)|(simp only [xfl (show j<k+1 by omega),hs2,List.cons_append,List.nil_append];done)|(simp only [go_sem];simp [xfl (show j<k+1 by omega),hs2,List.cons_append,List.nil_append];done)|(simp [xfl (show j<k+1 by omega),hs2,List.cons_append,List.nil_append];done))
   ·(simp only [go_sem];(repeat' (refine And.intro ?_ ?_))<;>first|exact trivial|with_reducible rfl|(simp only [xfl (show j<k+1 by omega),hs2,List.cons_append,List.nil_append];done)|(simp only [xfl (show j<k+1 by omega),hs2,List.cons_append,List.nil_append];with_reducible rfl)|(simp [xfl (show j<k+1 by omega),hs2,List.cons_append,List.nil_append];done)|(simp [xfl (show j<k+1 by omega),hs2,List.cons_append,List.nil_append];omega)|(simp only [xfl (show j<k+1 by omega),hs2,List.cons_append,List.nil_append];rfl)|skip)
 ·obtain rfl:k=f.data.length:=by omega
  rw [xfl hj];refine zst ?_;refine retN mz [4,2,5] ?_;simp only [go_sem];exact V.oksW_set (V.oksW_pure _ _ _ (xa1 _ _)) _ (by simp only [go_sem])
end Go.Proofs.YtbgpfigkcpmnfaaGreat
namespace Go.Proofs.YtbgpfigkcpmnfaaGreat
open Go Go.RowKit Rdn Rdn.Dp
attribute [local irreducible] xdu xgl xgn dat
theorem xlv (f:Files) (F:FitF f) (h:Int):Fnc Tryz.prog 141 [filV f,.int .i64 h] (fun x obs=>x=.bool (decide (opd f h))∧obs=[]):=by
 refine zcf Tryz.prog 141 fun mz=>?_;have h8:=F.o;by_cases c1:h<0
 ·have hr:decide (opd f h)=false:=decF fun c=>by have:=c.1;omega
  refine zgo mz fun W S=>?_;exact zrh mz hr
 by_cases c2:(f.opens.length:Int)≤h
 ·have hr:decide (opd f h)=false:=decF fun c=>by have:=c.2.1;omega
  refine zgo mz fun W S=>?_;exact zrh mz hr
 obtain⟨i,hi⟩:∃i:Nat,h=i:=⟨h.toNat,by omega⟩;subst hi;have hil:i<f.opens.length:=by omega
 have hi':((i:Int)).toNat=i:=Int.toNat_natCast i;by_cases c3:f.opens[i]!.file=-1
 ·have hr:decide (opd f i)=false:=decF fun c=>c.2.2 (by rw [hi'];exact c3)
  refine zgo mz fun W S=>?_;exact zrh mz hr
 ·have hr:decide (opd f i)=true:=decT ⟨by omega,by omega,by rw [hi'];exact c3⟩
  refine zgo mz fun W S=>?_;exact zrh mz hr
theorem yd9 {f:Files} {h:Int} (c:opd f h):xdu f h=(⟨f.data,f.opens.set h.toNat shut⟩,true):=by unfold xdu;exact if_pos c
theorem yd8 {f:Files} {h:Int} (c:¬opd f h):xdu f h=(f,false):=by unfold xdu;exact if_neg c
theorem xzt (f:Files) (F:FitF f) (h:Int):Fnc Tryz.prog 128 [filV f,.int .i64 h] (fun x obs=>x=.tup [filV (xdu f h).1,.bool (xdu f h).2]∧obs=[]):=by
 refine zcf Tryz.prog 128 fun mz=>?_;refine Fnc.low ?_;have fO:=xlv f F h;by_cases c:opd f h
 ·rw [decT c] at fO
  rw [yd9 c];obtain⟨c1,c2,c3⟩:=c;refine zgo mz fun W S=>?_;refine zcx (xcp f F.low) ?_;refine zcd (fO) ?_;refine ret mz [] ?_;(first|(simp only [go_sem];done)|(simp only [go_sem];((try dsimp only);(repeat' (refine And.intro ?_ ?_))<;>first|with_reducible rfl|(simp only [go_sem];done)|(simp only [go_sem];rfl)|(simp only [go_sem,shut];done)|(simp only [shut];(try simp only [go_sem]);first|done|rfl)|(simp only [go_sem];simp [shut];done)|(simp [shut];done)|rfl)))
 ·rw [decF c] at fO
  rw [yd8 c];refine zgo mz fun W S=>?_;refine zcx (xcp f F.low) ?_;refine zcd (fO) ?_;exact zrt mz
end Go.Proofs.YtbgpfigkcpmnfaaGreat
namespace Go.Proofs.YtbgpfigkcpmnfaaGreat
open Go Go.RowKit Rdn Rdn.Dp
theorem xki (f:Files) (i:Nat) (x:Int):xgn f i x=f.opens.set i ⟨f.opens[i]!.file,x,f.opens[i]!.write⟩:=rfl
theorem xsa (f:Files) (i:Nat):dat f i=f.data[f.opens[i]!.file.toNat]!:=rfl
theorem xt7 {f:Files} {i:Nat} (c:opd f i):i<f.opens.length∧f.opens[i]!.file≠-1:=⟨by have:=c.2.1;omega,c.2.2⟩
theorem yi7 {f:Files} {h x:Int} (c:opd f h) (c1:0≤x) (c2:x≤(dat f h).length):xgl f h x=(⟨f.data,xgn f h x⟩,true):=by unfold xgl;exact if_pos ⟨c,c1,c2⟩
theorem xtg {f:Files} {h x:Int} (c:¬(opd f h∧0≤x∧x≤(dat f h).length)):xgl f h x=(f,false):=by unfold xgl;exact if_neg c
theorem yi3 {f:Files} {h n:Int} (c:opd f h) (c1:0≤n) (c2:f.opens[h.toNat]!.write=false):xda f h n=(⟨f.data,xgn f h (f.opens[h.toNat]!.offset+rdn f h n)⟩,((dat f h).drop f.opens[h.toNat]!.offset.toNat).take (rdn f h n).toNat,true):=by unfold xda;exact if_pos ⟨c,c1,c2⟩
theorem xtf {f:Files} {h n:Int} (c:¬(opd f h∧0≤n∧f.opens[h.toNat]!.write=false)):xda f h n=(f,[],false):=by unfold xda;exact if_neg c
attribute [local irreducible] xgl xda xgn dat rdn
theorem yd3 (f:Files) (F:FitF f) (h x:Int):Fnc Tryz.prog 129 [filV f,.int .i64 h,.int .i64 x] (fun y obs=>y=.tup [filV (xgl f h x).1,.bool (xgl f h x).2]∧obs=[]):=by
 refine zcf Tryz.prog 129 fun mz=>?_;refine Fnc.low ?_;have fO:=xlv f F h;by_cases c:opd f h
 ·have ha:=F.at c
  rw [decT c] at fO;obtain⟨i,hi⟩:∃i:Nat,h=i:=⟨h.toNat,by have:=c.1;omega⟩;subst hi;rw [Int.toNat_natCast] at ha;have hd:=xsa f i;have ho:=xki f i x;obtain⟨c2,c3⟩:=xt7 c;have hdl:(dat f i).length=f.data[f.opens[i]!.file.toNat]!.length:=by rw [hd]
  by_cases c4:x<0
  ·rw [xtg (fun k=>by have:=k.2.1;omega)]
   refine zgo mz fun W S=>?_;refine zcx (xcp f F.low) ?_;refine zcd (fO) ?_;exact zrt mz
  by_cases c5:((dat f i).length:Int)<x
  ·rw [xtg (fun k=>by have:=k.2.2;omega)]
   refine zgo mz fun W S=>?_;refine zcx (xcp f F.low) ?_;refine zcd (fO) ?_;exact zrt mz
  ·rw [yi7 c (by omega) (by omega)]
   refine zgo mz fun W S=>?_;refine zcx (xcp f F.low) ?_;refine zcd (fO) ?_;exact zrh mz ho
 ·rw [decF c] at fO
  rw [xtg (fun k=>c k.1)];refine zgo mz fun W S=>?_;refine zcx (xcp f F.low) ?_;refine zcd (fO) ?_;exact zrt mz
theorem yd2 (f:Files) (F:FitF f) (h n:Int):Fnc Tryz.prog 126 [filV f,.int .i64 h,.int .i64 n] (fun y obs=>y=.tup [filV (xda f h n).1,cnV false (xda f h n).2.1,.bool (xda f h n).2.2]∧obs=[]):=by
 refine zcf Tryz.prog 126 fun mz=>?_;refine Fnc.low ?_;have fO:=xlv f F h;by_cases c:opd f h
 ·have ha:=F.at c
  rw [decT c] at fO;obtain⟨i,hi⟩:∃i:Nat,h=i:=⟨h.toNat,by have:=c.1;omega⟩;subst hi;have hR:=@yi3 f i n c;rw [Int.toNat_natCast] at ha hR;have hd:=xsa f i;obtain⟨c2,c3⟩:=xt7 c;by_cases c4:n<0
  ·rw [xtf (fun k=>by have:=k.2.1;omega)]
   refine zgo mz fun W S=>?_;refine zcx (xcp f F.low) ?_;refine zcd (fO) ?_;refine xfc 7 true 4 rfl ?_;exact zrt mz
  by_cases c5:f.opens[i]!.write=true
  ·rw [xtf (fun k=>by rw [Int.toNat_natCast] at k;rw [c5] at k;cases k.2.2)]
   refine zgo mz fun W S=>?_;refine zcx (xcp f F.low) ?_
   (first|refine xaj (fO) ?_|refine xaa (fO) ?_);refine zev ?_
   refine zsx c5 ?_;refine xfc 7 true 4 rfl ?_;exact zrt mz
  ·have c6:f.opens[i]!.write=false:=by simpa using c5
   rw [hR (by omega) c6];refine zgo mz fun W S=>?_;refine zcx (xcp f F.low) ?_
   (first|refine xaj (fO) ?_|refine xaa (fO) ?_);refine zev ?_
   obtain⟨D,hD⟩:∃D,f.data[f.opens[i]!.file.toNat]! =D:=⟨_,rfl⟩;rw [hD] at hd;rw [hd] at ha⊢;have hm:(if(D.length:Int)-f.opens[i]!.offset<n then(D.length:Int)-f.opens[i]!.offset else n)=rdn f i n:=by
    unfold rdn;rw [Int.toNat_natCast,hd];split<;>omega
   obtain⟨K,hK⟩:∃K:Nat,rdn f i n=K:=⟨(rdn f i n).toNat,by rw [←hm];split<;>omega⟩;have hKD:f.opens[i]!.offset.toNat+K≤D.length:=by rw [hK] at hm;split at hm<;>omega
   have hlen:(((D.drop f.opens[i]!.offset.toNat).take K).length:Int)=K:=by rw [List.length_take,List.length_drop];omega
   have hTl:((D.drop f.opens[i]!.offset.toNat).take K).length≤64:=by omega
   have hTd:(D.take (f.opens[i]!.offset+(K:Int)).toNat).drop f.opens[i]!.offset.toNat=(D.drop f.opens[i]!.offset.toNat).take K:=by
    rw [List.drop_take]
    congr 1
    omega
   have ho:=xki f i (f.opens[i]!.offset+K);rw [c6] at ho;rw [hK] at hm⊢
   repeat(first|(simp only [c6,hD,hm,hTd];try simp only [go_sem])|refine And.intro (by omega) ?_|refine And.intro rfl ?_|refine xd1 rfl rfl ?_|refine xax ?_|refine xbc (by kernel_rfl) ?_|(simp (disch:=omega) only [xbq,Nat.min_eq_left,Nat.min_eq_right,if_pos,if_neg,xb6,xaq,xbv,xen,xeu,xet,decT,decF,beqT,beqF,bneT,bneF,Int.toNat_natCast];try simp only [go_sem])|(refine xas rfl ?_ ?_;·(simp<;>omega))|(refine xaw rfl ?_ ?_;·(simp<;>omega))|((first|refine xb0 ?_|refine xd2 rfl ?_|refine xg9 rfl ?_|refine xew xap rfl (by kernel_rfl) ?_|refine xex xap rfl (by kernel_rfl) ?_|refine xey xap rfl (by kernel_rfl) ?_);simp only [go_sem]))
   exact zrh mz ho
 ·rw [decF c] at fO
  rw [xtf (fun k=>c k.1)];refine zgo mz fun W S=>?_;refine zcx (xcp f F.low) ?_;refine zcd (fO) ?_;refine xfc 7 true 4 rfl ?_;exact zrt mz
end Go.Proofs.YtbgpfigkcpmnfaaGreat
namespace Go.Proofs.YtbgpfigkcpmnfaaGreat
open Go Go.RowKit Rdn Rdn.Dp
theorem yjw {f:Files} {j:Nat} (h:j<hdl f):f.opens[j]!.file≠-1:=by
 have hl:=yeo f;have:=List.not_of_lt_findIdx (p:=fun o:Opn=>decide (o.file=-1)) (xs:=f.opens) h;rw [getElem!_pos f.opens j (by omega)];simpa using this
theorem yjx {f:Files} (h:hdl f<f.opens.length):f.opens[hdl f]!.file=-1:=by
 have:=List.findIdx_getElem (p:=fun o:Opn=>decide (o.file=-1)) (xs:=f.opens) (w:=h);rw [getElem!_pos f.opens (hdl f) h];exact of_decide_eq_true this
def clr (k:Int) (l:List Opn) (p:Nat):List Opn:=(l.take p).map (zr k)++l.drop p
theorem xs8 (k:Int) (l:List Opn) (p:Nat):(clr k l p).length=l.length:=by simp [clr];omega
theorem xof (k:Int) (l:List Opn):clr k l 0=l:=rfl
theorem yfp (k:Int) (l:List Opn):clr k l l.length=l.map (zr k):=by simp [clr]
theorem yea {k:Int} {l:List Opn} {p:Nat} (h:p<l.length):(clr k l p)[p]! =l[p]!:=by
 rw [getElem!_pos _ p (by rw [xs8];exact h),getElem!_pos l p h];simp [clr,List.getElem_append,Nat.min_eq_left (Nat.le_of_lt h)]
theorem xx2 {k:Int} {l:List Opn} {p:Nat} (h:p<l.length):(clr k l p).set p (zr k l[p]!)=clr k l (p+1):=by
 unfold clr;rw [List.set_append_right _ _ (by simp;omega),xbl h,List.map_append,List.append_assoc]
 congr 1
 have e:l.drop p=l[p]!::l.drop (p+1):=by rw [getElem!_pos l p h];exact(List.getElem_cons_drop h).symm
 rw [e];simp [Nat.min_eq_left (Nat.le_of_lt h)]
theorem yj6 {k:Int} {l:List Opn} {p:Nat} (h:p<l.length) (c:l[p]!.file≠k):clr k l (p+1)=clr k l p:=by
 rw [←xx2 h];have e:zr k l[p]! =(clr k l p)[p]!:=by rw [yea h];exact if_neg c
 rw [e,getElem!_pos _ p (by rw [xs8];exact h),List.set_getElem_self]
theorem yfq {k:Int} {l:List Opn} {p:Nat} (h:p<l.length) (c:l[p]!.file=k):(clr k l p).set p ⟨l[p]!.file,0,l[p]!.write⟩=clr k l (p+1):=by
 rw [←xx2 h];exact congrArg _ (if_pos c).symm
theorem xn5 {f:Files} {k m:Int} (c:k<0∨(f.data.length:Int)≤k∨m<0∨2<m∨hdl f=f.opens.length):xes f k m=(f,-1):=by unfold xes;exact if_pos c
theorem yi0 {f:Files} {k:Int} (c:¬(k<0∨(f.data.length:Int)≤k∨hdl f=f.opens.length)):xes f k 0=((⟨f.data,f.opens.set (hdl f) ⟨k,0,false⟩⟩:Files),(hdl f:Int)):=by
 unfold xes;rw [if_neg (by omega),if_pos rfl]
theorem yi1 {f:Files} {k:Int} (c:¬(k<0∨(f.data.length:Int)≤k∨hdl f=f.opens.length)):xes f k 1=((⟨f.data.set k.toNat [],(f.opens.map (zr k)).set (hdl f) ⟨k,0,true⟩⟩:Files),(hdl f:Int)):=by
 unfold xes;rw [if_neg (by omega),if_neg (by omega),if_pos rfl]
theorem yi2 {f:Files} {k:Int} (c:¬(k<0∨(f.data.length:Int)≤k∨hdl f=f.opens.length)):xes f k 2=((⟨f.data,f.opens.set (hdl f) ⟨k,f.data[k.toNat]!.length,true⟩⟩:Files),(hdl f:Int)):=by
 unfold xes;rw [if_neg (by omega),if_neg (by omega),if_neg (by omega)]
attribute [local irreducible] xes hdl clr
theorem ya0 (f:Files) (F:FitF f) (k m:Int):Fnc Tryz.prog 127 [filV f,.int .i64 k,.int .i64 m] (fun y obs=>y=.tup [filV (xes f k m).1,.int .i64 (xes f k m).2]∧obs=[]):=by
 refine zcf Tryz.prog 127 fun mz=>?_;refine Fnc.low ?_;have hle:=yeo f;have h8:=F.o;have h4:=F.d;refine zgo mz fun W S=>?_;refine zcx (xcp f F.low) ?_;refine zlk [1,2,3,6,8] (fun p:{p:Nat // p≤hdl f}=>[(9,.int .i64 p.1)]) (fun _=>[⟨.box false 44,true,0,filV f⟩,⟨.box false 44,true,0,.agg [.nilS,.nilS]⟩,⟨.row 65,true,0,.arr 1 (f.data.map (slV' true 4 xaf))⟩,⟨.row 193,true,0,.arr 3 (f.opens.map opnV)⟩,⟨.box false 44,true,0,.agg [.own 2 0,.own 3 0]⟩]) (fun p=>hdl f-p.1) (⟨0,by simp⟩) 5 ?_;intro J hJ
 rintro⟨h,hh⟩
 by_cases hlt:h<hdl f
 ·have hn:=yjw hlt
  refine zst ?_;refine xbw 5 (hJ _ (⟨h+1,hlt⟩) (by first|omega|(dsimp only;omega)|(simp;omega))) rfl (by simp) ?_ (by first|rfl|(simp only [go_sem];done)) (by first|rfl|(simp only [go_sem];done)) ?_
  ·(first|rfl|(simp only [go_sem];done)|(simp only [go_sem];simp only [];done)|(simp only [];done)|(simp only [go_sem];simp [];done)|(simp [];done))
  ·(simp only [go_sem];(repeat' (refine And.intro ?_ ?_))<;>first|exact trivial|with_reducible rfl|(simp only [];done)|(simp only [];with_reducible rfl)|(simp [];done)|(simp [];omega)|(simp only [];rfl)|skip)
 obtain rfl:h=hdl f:=by omega
 by_cases c5:hdl f=f.opens.length
 ·rw [xn5 (.inr (.inr (.inr (.inr c5))))]
  by_cases c1:k<0
  ·skip
   refine zst ?_;exact zrt mz
  by_cases c2:(f.data.length:Int)≤k
  ·skip
   refine zst ?_;exact zrt mz
  by_cases c3:m<0
  ·skip
   refine zst ?_;exact zrt mz
  by_cases c4:2<m
  ·skip
   refine zst ?_;exact zrt mz
  ·skip
   refine zst ?_;exact zrt mz
 have his:=yjx (f:=f) (by omega);by_cases c1:k<0
 ·rw [xn5 (.inl c1)]
  refine zst ?_;exact zrt mz
 by_cases c2:(f.data.length:Int)≤k
 ·rw [xn5 (.inr (.inl c2))]
  refine zst ?_;exact zrt mz
 by_cases c3:m<0
 ·rw [xn5 (.inr (.inr (.inl c3)))]
  refine zst ?_;exact zrt mz
 by_cases c4:2<m
 ·rw [xn5 (.inr (.inr (.inr (.inl c4))))]
  refine zst ?_;exact zrt mz
 have hc:¬(k<0∨(f.data.length:Int)≤k∨hdl f=f.opens.length):=by omega
 have c5':hdl f<f.opens.length:=by omega
 have hm:m=0∨m=1∨m=2:=by omega
 rcases hm with rfl|rfl|rfl
 ·rw [yi0 hc]
  refine zst ?_;exact zrt mz
 ·rw [yi1 hc]
  refine zst ?_;refine xay [1,2,6,8,9,62] (fun p:{p:Nat // p≤f.opens.length}=>[(63,.int .i64 p.1)]) (fun p=>[⟨.box false 44,true,0,filV f⟩,⟨.box false 44,true,0,.agg [.nilS,.nilS]⟩,⟨.row 65,true,0,.arr 1 ((f.data.map (slV' true 4 xaf)).set k.toNat .nilS)⟩,⟨.row 193,true,0,.arr 3 ((clr k f.opens p.1).map opnV)⟩,⟨.box false 44,true,0,.agg [.own 2 0,.own 3 0]⟩]) (fun p=>f.opens.length-p.1) (⟨0,by simp⟩) 5 (by simp only [go_sem];rfl) ?_ (by first|rfl|(simp only [go_sem];done)|(simp only [go_sem];simp [xof];done)) (by simp) (by first|rfl|(simp only [go_sem];done)) (by first|rfl|(simp only [go_sem];done)) (by first|rfl|(simp only [go_sem];done)|(simp only [xof];(try simp only [go_sem]);first|done|rfl)) ?_
  ·(simp only [go_sem];(try simp [xof]);done)
  intro J hJ
  rintro⟨p,hp⟩
  have hcl:=xs8 k f.opens p;by_cases hlt:p<f.opens.length
  ·have ha:=yea (k:=k) hlt
   by_cases ck:f.opens[p]!.file=k
   ·have hs:=yfq hlt ck
    rw [ck] at hs;refine zsx (And.intro ha (ck)) ?_;exact zn5 (hJ _ (⟨p+1,hlt⟩) (by first|omega|(dsimp only;omega)|(simp;omega))) hs
   ·have hs:=yj6 hlt ck
    refine zsx ha ?_;exact zn5 (hJ _ (⟨p+1,hlt⟩) (by first|omega|(dsimp only;omega)|(simp;omega))) hs
  ·obtain rfl:p=f.opens.length:=by omega
   have he:=yfp k f.opens;have hml:(f.opens.map (zr k)).length=f.opens.length:=by simp
   dsimp only;rw [he];refine zst ?_;refine xef 2 ((f.data.set k.toNat []).map (slV' true 4 xaf)) rfl (xro _ _ _ _ _) (xa1 _ _) (xaz (f:=slV' true 4 xaf) (s:=1) (fun _=>rfl) _) ?_;exact zrt mz
 ·rw [yi2 hc]
  have hsa:(f.opens.set (hdl f) ⟨k,0,true⟩)[hdl f]! =⟨k,0,true⟩:=by rw [xvb c5',if_pos rfl]
  have hsl:(f.opens.set (hdl f) ⟨k,0,true⟩).length=f.opens.length:=List.length_set;refine zsx hsa ?_;refine ret mz [] ?_;(first|(simp only [go_sem];done)|(simp only [go_sem];((try dsimp only);(repeat' (refine And.intro ?_ ?_))<;>first|with_reducible rfl|(simp only [go_sem];done)|(simp only [go_sem];rfl)|(simp only [go_sem,List.set_set];done)|(simp only [List.set_set];(try simp only [go_sem]);first|done|rfl)|(simp only [go_sem];simp [List.set_set];done)|(simp [List.set_set];done)|rfl)))
end Go.Proofs.YtbgpfigkcpmnfaaGreat
namespace Go.Proofs.YtbgpfigkcpmnfaaGreat
open Go Go.RowKit Rdn Rdn.Dp
theorem xvo (c:Canon) {M:Prop} (a0:c.tag=0→c.region≠0→M) (a1:c.tag=0→c.region=0→c.offset≠0→M) (a2:c.tag=0→c.region=0→c.offset=0→M) (a3:c.tag=2→c.region≠0→M) (a4:c.tag=2→c.region=0→c.offset≠0→M) (a5:c.tag=2→c.region=0→c.offset=0→M) (a6:c.tag≠0→c.tag≠1→c.tag≠2→M) (a7:c.tag=1→c.region=-1→c.offset<0→c.val≠0→M) (a8:c.tag=1→c.region=-1→c.offset<0→c.val=0→M) (a9:c.tag=1→c.region=-1→0≤c.offset→65535<c.offset→c.val≠0→M) (a10:c.tag=1→c.region=-1→0≤c.offset→65535<c.offset→c.val=0→M) (a11:c.tag=1→c.region=-1→0≤c.offset→c.offset≤65535→c.val≠0→M) (a12:c.tag=1→c.region=-1→0≤c.offset→c.offset≤65535→c.val=0→M) (a13:c.tag=1→c.region≠-1→c.val≠0→M) (a14:c.tag=1→c.region≠-1→c.region<0→c.val=0→M) (a15:c.tag=1→4≤c.region→c.val=0→M) (a16:c.tag=1→0≤c.region→c.region<4→c.offset<0→c.val=0→M) (a17:c.tag=1→0≤c.region→c.region<4→0≤c.offset→32≤c.offset→c.val=0→M) (a18:c.tag=1→0≤c.region→c.region<4→0≤c.offset→c.offset<32→c.val=0→M):M:=by
 by_cases t0:c.tag=0
 ·by_cases r:c.region=0
  ·by_cases o:c.offset=0
   ·exact a2 (by omega) (by omega) (by omega)
   ·exact a1 (by omega) (by omega) (by omega)
  ·exact a0 (by omega) (by omega)
 by_cases t2:c.tag=2
 ·by_cases r:c.region=0
  ·by_cases o:c.offset=0
   ·exact a5 (by omega) (by omega) (by omega)
   ·exact a4 (by omega) (by omega) (by omega)
  ·exact a3 (by omega) (by omega)
 by_cases t1:c.tag=1
 ·by_cases r:c.region=-1
  ·by_cases o:c.offset<0
   ·by_cases v:c.val=0
    ·exact a8 (by omega) (by omega) (by omega) (by omega)
    ·exact a7 (by omega) (by omega) (by omega) (by omega)
   by_cases o2:c.offset≤65535
   ·by_cases v:c.val=0
    ·exact a12 (by omega) (by omega) (by omega) (by omega) (by omega)
    ·exact a11 (by omega) (by omega) (by omega) (by omega) (by omega)
   ·by_cases v:c.val=0
    ·exact a10 (by omega) (by omega) (by omega) (by omega) (by omega)
    ·exact a9 (by omega) (by omega) (by omega) (by omega) (by omega)
  by_cases v:c.val=0
  ·by_cases r1:c.region<0
   ·exact a14 (by omega) (by omega) (by omega) (by omega)
   by_cases r2:c.region<4
   ·by_cases o:c.offset<0
    ·exact a16 (by omega) (by omega) (by omega) (by omega) (by omega)
    by_cases o2:c.offset<32
    ·exact a18 (by omega) (by omega) (by omega) (by omega) (by omega) (by omega)
    ·exact a17 (by omega) (by omega) (by omega) (by omega) (by omega) (by omega)
   ·exact a15 (by omega) (by omega) (by omega)
  ·exact a13 (by omega) (by omega) (by omega)
 ·exact a6 (by omega) (by omega) (by omega)
theorem xzs (c:Canon):Fnc Tryz.prog 97 [xaf c] (fun x obs=>x=.bool (xcw c)∧obs=[]):=by
 refine zcf Tryz.prog 97 fun mz=>?_;refine xvo c ?_ ?_ ?_ ?_ ?_ ?_ ?_ ?_ ?_ ?_ ?_ ?_ ?_ ?_ ?_ ?_ ?_ ?_ ?_
 all_goals
  intros
  first
   |rw [show xcw c=true from decT (by unfold okC;omega)]
   |rw [show xcw c=false from decF (by unfold okC;omega)]
  refine zgo mz fun W S=>?_;exact zrt mz
theorem xic (l:List Canon) (n:Int):Fnc Tryz.prog 70 [.sl false 4 (l.map xaf),.int .i64 n] (fun x obs=>x=.bool (xba l n)∧obs=[]):=by
 refine zcf Tryz.prog 70 fun mz=>?_;refine Fnc.wf fun hw=>?_;have hm:l.length≤140737488355328:=by
  have:=hw.1;simp only [V.wf,List.length_map] at this;exact this.2
 clear hw;refine zgo mz fun W S=>?_;refine zlk [0,1,7,8] (fun p:{p:Nat // p≤l.length∧∀j,j<p→xcw l[j]! =true}=>[(9,.int .i64 p.1)]) (fun _=>[]) (fun p=>l.length-p.1) (⟨0,by simp⟩) 0 ?_;intro J hJ
 rintro⟨k,hk0,hk1⟩
 by_cases hlt:k<l.length
 ·have hc:=xzs l[k]!
  cases hb:xcw l[k]! with
  |true=>
   rw [hb] at hc;have hS:∀j,j<k+1→xcw l[j]! =true:=fun j hj=>by
    by_cases e:j=k
    ·subst e;exact hb
    ·exact hk1 j (by omega)
   refine zst ?_;refine zcd (hc) ?_;exact zn0 (hJ _ (⟨k+1,hlt,hS⟩) (by first|omega|(dsimp only;omega)|(simp;omega))) hlt
  |false=>
   rw [hb] at hc;have hr:xba l n=false:=by
    unfold xba;have:l.all xcw=false:=List.all_eq_false.2 ⟨_,xc9 hlt,by rw [hb];simp⟩;rw [this];rfl
   refine zst ?_;refine zcd (hc) ?_;exact zrh mz hr
 ·obtain rfl:k=l.length:=by omega
  have ha:l.all xcw=true:=List.all_eq_true.2 fun x hx=>by
   obtain⟨j,hj,rfl⟩:=xnp hx;exact hk1 j hj
  have hr:xba l n=decide ((l.length:Int)≤n):=by unfold xba;rw [ha];rfl
  refine zst ?_;exact zrh mz hr
end Go.Proofs.YtbgpfigkcpmnfaaGreat
namespace Go.Proofs.YtbgpfigkcpmnfaaGreat
open Go Go.RowKit Rdn Rdn.Dp
theorem xvp (l:List Canon):xba l l.length=l.all xcw:=by unfold xba;rw [decT (Int.le_refl _),Bool.and_true]
theorem ycg {D c:List Canon} {a i:Nat} (ha:a≤D.length) (hi:i<c.length) (h:a+i<D.length):(over D a (c.take i)).set (a+i) c[i]! =over D a (c.take (i+1)):=by
 have h1:(D.take a).length=a:=by rw [List.length_take];omega
 have h2:(c.take i).length=i:=by rw [List.length_take];omega
 have h3:(c.take (i+1)).length=i+1:=by rw [List.length_take];omega
 unfold over;rw [List.set_append_right _ _ (by rw [List.length_append];omega),h2,h3,List.length_append,h1,h2,Nat.sub_self,xbl hi];have e:D.drop (a+i)=D[a+i]!::D.drop (a+(i+1)):=by rw [getElem!_pos D (a+i) h];exact(List.getElem_cons_drop h).symm
 rw [e,List.set_cons_zero];simp
theorem ycf {D c:List Canon} {a i:Nat} (ha:a≤D.length) (hi:i<c.length) (h:¬a+i<D.length):over D a (c.take i)++[c[i]!]=over D a (c.take (i+1)):=by
 unfold over;rw [xbl hi,List.drop_of_length_le (by rw [List.length_take];omega),List.drop_of_length_le (by simp;omega)];simp
theorem xjl (D:List Canon) (a:Nat):over D a []=D:=by simp [over]
theorem ydd {f:Files} {h:Int} {c:List Canon} (k:opd f h) (c1:f.opens[h.toNat]!.write=true) (c2:c.all xcw=true):xcb f h c=(⟨f.data.set f.opens[h.toNat]!.file.toNat (over (dat f h) f.opens[h.toNat]!.offset.toNat (c.take (wrn f h c).toNat)),xgn f h (f.opens[h.toNat]!.offset+wrn f h c)⟩,wrn f h c,true):=by unfold xcb;exact if_pos ⟨k,c1,c2⟩
theorem xv6 {f:Files} {h:Int} {c:List Canon} (k:¬(opd f h∧f.opens[h.toNat]!.write=true∧c.all xcw=true)):xcb f h c=(f,0,false):=by unfold xcb;exact if_neg k
attribute [local irreducible] xcb xgn dat wrn over
theorem ya4 (f:Files) (F:FitF f) (h:Int) (c:List Canon) (hc:c.length≤100000):Fnc Tryz.prog 125 [filV f,.int .i64 h,.sl false 4 (c.map xaf)] (fun y obs=>y=.tup [filV (xcb f h c).1,.int .i64 (xcb f h c).2.1,.bool (xcb f h c).2.2]∧obs=[]):=by
 refine zcf Tryz.prog 125 fun mz=>?_;refine Fnc.low ?_;have fO:=xlv f F h;have fC:=xic c c.length;rw [xvp] at fC;by_cases k:opd f h
 ·have ha:=F.at k
  rw [decT k] at fO;obtain⟨i,hi⟩:∃i:Nat,h=i:=⟨h.toNat,by have:=k.1;omega⟩;subst hi;have hT:=@ydd f i c k;have hF:=@xv6 f i c;rw [Int.toNat_natCast] at ha hT hF;have hd:=xsa f i;obtain⟨c2,c3⟩:=xt7 k;cases c5:f.opens[i]!.write with
  |false=>
   rw [hF (fun k=>by rw [c5] at k;cases k.2.1)];refine zgo mz fun W S=>?_;refine zcx (xcp f F.low) ?_
   (first|refine xaj (fO) ?_|refine xaa (fO) ?_);refine zev ?_
   refine zsx c5 ?_;exact zrt mz
  |true=>
   cases c6:c.all xcw with
   |false=>
    rw [c6] at fC;rw [hF (fun k=>by rw [c6] at k;cases k.2.2)];refine zgo mz fun W S=>?_;refine zcx (xcp f F.low) ?_
    (first|refine xaj (fO) ?_|refine xaa (fO) ?_);refine zev ?_
    refine zsx c5 ?_;refine zcd (fC) ?_;exact zrt mz
   |true=>
    rw [c6] at fC;rw [hT c5 c6];obtain⟨D,hD⟩:∃D,f.data[f.opens[i]!.file.toNat]! =D:=⟨_,rfl⟩;have hRJ:=xzu f F.low f.opens[i]!.file.toNat (by omega);rw [hD] at hd hRJ;rw [hd] at ha⊢;have hm:(if 64-f.opens[i]!.offset<(c.length:Int) then 64-f.opens[i]!.offset else(c.length:Int))=wrn f i c:=by
     unfold wrn;rw [Int.toNat_natCast];split<;>omega
    obtain⟨K,hK⟩:∃K:Nat,wrn f i c=K:=⟨(wrn f i c).toNat,by rw [←hm];split<;>omega⟩;have hKc:K≤c.length:=by rw [hK] at hm;split at hm<;>omega
    have hK64:f.opens[i]!.offset+K≤64:=by rw [hK] at hm;split at hm<;>omega
    have ho:=xki f i (f.opens[i]!.offset+K);rw [hK,Int.toNat_natCast];rw [hK] at hm;obtain⟨j,hj⟩:∃j:Nat,f.opens[i]!.file=j:=⟨f.opens[i]!.file.toNat,by omega⟩;obtain⟨a,haa⟩:∃a:Nat,f.opens[i]!.offset=a:=⟨f.opens[i]!.offset.toNat,by omega⟩;rw [hj] at hRJ ha ho;rw [haa] at ha ho hm hK64;rw [hj,haa,Int.toNat_natCast,Int.toNat_natCast];rw [Int.toNat_natCast] at hRJ;have hjl:j<f.data.length:=by omega
    have hget:((f.data.map (slV' true 4 xaf)).set j (.own 4 0)).getD j V.junk=.own 4 0:=by simp [List.getD_eq_getElem?_getD,hjl]
    have hsl:((f.data.map (slV' true 4 xaf)).set j (.own 4 0)).length=f.data.length:=by simp
    refine zgo mz fun W S=>?_;refine zcx (hRJ) ?_
    (first|refine xaj (fO) ?_|refine xaa (fO) ?_);refine zev ?_
    refine zsx c5 ?_
    (first|refine xaj (fC) ?_|refine xaa (fC) ?_);refine zev ?_
    repeat(first|(simp only [c5,hj,haa,hm,hget,hsl];try simp only [go_sem])|refine And.intro (by omega) ?_|refine And.intro rfl ?_|refine xd1 rfl rfl ?_|refine xax ?_|refine xbc (by kernel_rfl) ?_|(simp (disch:=omega) only [xbq,Nat.min_eq_left,Nat.min_eq_right,if_pos,if_neg,xb6,xaq,xbv,xen,xeu,xet,decT,decF,beqT,beqF,bneT,bneF,Int.toNat_natCast];try simp only [go_sem])|(refine xas rfl ?_ ?_;·(simp<;>omega))|(refine xaw rfl ?_ ?_;·(simp<;>omega))|((first|refine xb0 ?_|refine xd2 rfl ?_|refine xg9 rfl ?_|refine xew xap rfl (by kernel_rfl) ?_|refine xex xap rfl (by kernel_rfl) ?_|refine xey xap rfl (by kernel_rfl) ?_);simp only [go_sem]))
    refine xay [2,6,9,10,11,57] (fun p:{p:Nat // p≤K}=>[(12,.own 4 ((over D a (c.take p.1)).length-D.length)),(58,.int .i64 p.1)]) (fun p=>[⟨.box false 44,true,0,filV f⟩,⟨.box false 44,true,0,.agg [.nilS,.nilS]⟩,⟨.rows false 65,true,0,.arr 1 ((f.data.map (slV' true 4 xaf)).set j (.own 4 0))⟩,⟨.row 193,true,0,.arr 3 (f.opens.map opnV)⟩,⟨.row 98,true,(over D a (c.take p.1)).length-D.length,.arr 4 ((over D a (c.take p.1)).map xaf)⟩,⟨.box false 44,true,0,.agg [.own 2 0,.own 3 0]⟩]) (fun p=>K-p.1) (⟨0,by simp⟩) 6 (by simp only [go_sem];rfl) ?_ (by first|rfl|(simp only [go_sem];done)|(simp only [go_sem];simp [xjl,Nat.sub_self];done)) (by simp) (by first|rfl|(simp only [go_sem];done)) (by first|rfl|(simp only [go_sem];done)) (by first|rfl|(simp only [go_sem];done)|(simp only [xjl,Nat.sub_self];(try simp only [go_sem]);first|done|rfl)) ?_
    ·(simp only [go_sem];(try simp [xjl,Nat.sub_self]);done)
    intro J hJ
    rintro⟨p,hp⟩
    have hlo:=xjk (d:=D) (c:=c.take p) (a:=a) (by omega);rw [List.length_take,Nat.min_eq_left (by omega)] at hlo;by_cases hlt:p<K
    ·have hlo1:=xjk (d:=D) (c:=c.take (p+1)) (a:=a) (by omega)
     rw [List.length_take,Nat.min_eq_left (by omega)] at hlo1;by_cases cb:a+p<D.length
     ·have hs:=ycg (c:=c) (i:=p) (D:=D) (a:=a) (by omega) (by omega) cb
      have hg:(over D a (c.take (p+1))).length-D.length=(over D a (c.take p)).length-D.length:=by omega
      have hap:((a:Int)+(p:Int)).toNat=a+p:=by omega
      repeat(first|(simp only [hj,haa,hap];try simp only [go_sem])|refine And.intro (by omega) ?_|refine And.intro rfl ?_|refine xd1 rfl rfl ?_|refine xax ?_|refine xbc (by kernel_rfl) ?_|(simp (disch:=omega) only [xbq,Nat.min_eq_left,Nat.min_eq_right,if_pos,if_neg,xb6,xaq,xbv,xen,xeu,xet,decT,decF,beqT,beqF,bneT,bneF,Int.toNat_natCast];try simp only [go_sem])|(refine xas rfl ?_ ?_;·(simp<;>omega))|(refine xaw rfl ?_ ?_;·(simp<;>omega))|((first|refine xb0 ?_|refine xd2 rfl ?_|refine xg9 rfl ?_|refine xew xap rfl (by kernel_rfl) ?_|refine xex xap rfl (by kernel_rfl) ?_|refine xey xap rfl (by kernel_rfl) ?_);simp only [go_sem]))
      exact zn6 (hJ _ (⟨p+1,hlt⟩) (by first|omega|(dsimp only;omega)|(simp;omega))) (And.intro hs (hg))
     ·have hs:=ycf (c:=c) (i:=p) (D:=D) (a:=a) (by omega) (by omega) cb
      have hg:(over D a (c.take (p+1))).length-D.length=(over D a (c.take p)).length-D.length+1:=by omega
      repeat(first|(simp only [hj,haa];try simp only [go_sem])|refine And.intro (by omega) ?_|refine And.intro rfl ?_|refine xd1 rfl rfl ?_|refine xax ?_|refine xbc (by kernel_rfl) ?_|(simp (disch:=omega) only [xbq,Nat.min_eq_left,Nat.min_eq_right,if_pos,if_neg,xb6,xaq,xbv,xen,xeu,xet,decT,decF,beqT,beqF,bneT,bneF,Int.toNat_natCast];try simp only [go_sem])|(refine xas rfl ?_ ?_;·(simp<;>omega))|(refine xaw rfl ?_ ?_;·(simp<;>omega))|((first|refine xb0 ?_|refine xd2 rfl ?_|refine xg9 rfl ?_|refine xew xap rfl (by kernel_rfl) ?_|refine xex xap rfl (by kernel_rfl) ?_|refine xey xap rfl (by kernel_rfl) ?_);simp only [go_sem]))
      exact zn6 (hJ _ (⟨p+1,hlt⟩) (by first|omega|(dsimp only;omega)|(simp;omega))) (And.intro hs (hg))
    ·obtain rfl:p=K:=by omega
     repeat(first|(simp only [hj,haa,hsl,hget];try simp only [go_sem])|refine And.intro (by omega) ?_|refine And.intro rfl ?_|refine xd1 rfl rfl ?_|refine xax ?_|refine xbc (by kernel_rfl) ?_|(simp (disch:=omega) only [xbq,Nat.min_eq_left,Nat.min_eq_right,if_pos,if_neg,xb6,xaq,xbv,xen,xeu,xet,decT,decF,beqT,beqF,bneT,bneF,Int.toNat_natCast];try simp only [go_sem])|(refine xas rfl ?_ ?_;·(simp<;>omega))|(refine xaw rfl ?_ ?_;·(simp<;>omega))|((first|refine xb0 ?_|refine xd2 rfl ?_|refine xg9 rfl ?_|refine xew xap rfl (by kernel_rfl) ?_|refine xex xap rfl (by kernel_rfl) ?_|refine xey xap rfl (by kernel_rfl) ?_);simp only [go_sem]))
     have hq:((((f.data.map (slV' true 4 xaf)).set j (.own 4 0)).set j (.own 4 ((over D a (c.take p)).length-D.length))).set j (V.sl true 4 ((over D a (c.take p)).map xaf)))=(f.data.set j (over D a (c.take p))).map (slV' true 4 xaf):=by rw [List.set_set,List.set_set,yaa]
     refine xj8 2 j 4 rfl rfl (by simp [hjl]) ?_;simp only [hq,List.set_cons_zero,List.set_cons_succ];refine xa2 2 rfl (xa1 _ _) ?_;exact zrh mz ho
 ·rw [decF k] at fO
  rw [xv6 (fun q=>k q.1)];refine zgo mz fun W S=>?_;refine zcx (xcp f F.low) ?_;refine zcd (fO) ?_;exact zrt mz
end Go.Proofs.YtbgpfigkcpmnfaaGreat
namespace Go.Proofs.YtbgpfigkcpmnfaaGreat
open Go Go.RowKit Rdn Rdn.Dp
def xvv:List Opn:=[shut,shut,shut,shut,shut,shut,shut,shut]
def ykm (data:List (List Int)):Prop:=data=[]∨(data.length≤4∧∀x∈data,x.length≤64)
instance (data:List (List Int)):Decidable (ykm data):=by unfold ykm;exact inferInstance
attribute [local irreducible] xvv numC
end Go.Proofs.YtbgpfigkcpmnfaaGreat
