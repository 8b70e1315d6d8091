import Derived.Test.YthmjocibdepahaaGreatA9
import Derived.Test.YthmjocibdepahaaGreatA51
set_option linter.defProp false
set_option linter.unusedSimpArgs false
set_option linter.unusedVariables false
set_option maxHeartbeats 64000000
set_option maxRecDepth 100000
namespace Go.Proofs.YthmjocibdepahaaGreat.Tp
open Go Go.RowKit Rdn Rdn.Dp
abbrev xab (p:PageID):V:=.agg [.int .i64 p.region,.int .i64 p.index]
abbrev pgV (t:Bool) (p:Page):V:=.agg [xab p.id,.sl t 4 (p.cells.map aS),oG t p.view]
abbrev xdc (s:State):V:=.agg [.sl false 1 (s.regions.map (bD false 4 aS)),.sl false 8 (s.threads.map (oG false))]
instance :Lo xab xab:=⟨fun _=>rfl,fun _=>rfl⟩
instance (t:Bool):Lo (pgV t) (pgV false):=⟨fun _=>rfl,fun o=>by simp only [pgV,oG,V.low,V.lows,uC]⟩
def pcn (n:Int):Nat:=((n+7) / 8).toNat
theorem pcn_lt {n:Int} {i:Nat}:i<pcn n↔8*(i:Int)<n:=by unfold pcn;omega
theorem yr2 {n:Int} (h:n≤32):pcn n≤4:=by unfold pcn;omega
def xG (r c:Nat):List PageID:=(List.range c).map fun i:Nat=>⟨r,i⟩
def kK (z:List Int):Nat→List PageID
 |0=>[]
 |r+1=>kK z r++xG r (pcn z[r]!)
def xH (n:Nat):List PageID:=(List.range n).map fun i:Nat=>⟨-1,i⟩
def uB (z:List Int) (n:Int):List PageID:=kK z z.length++xH n.toNat
theorem ym5 (r:Nat):xG r 0=[]:=rfl
theorem ym4 (r c:Nat):xG r c++[⟨r,c⟩]=xG r (c+1):=by simp [xG,List.range_succ]
theorem ym7:xH 0=[]:=rfl
theorem ym6 (c:Nat):xH c++[⟨-1,c⟩]=xH (c+1):=by simp [xH,List.range_succ]
theorem ym3 (z:List Int) (r:Nat):kK z r++xG r (pcn z[r]!)=kK z (r+1):=rfl
theorem xpu (r c:Nat):(xG r c).length=c:=by simp [xG]
theorem xpv (c:Nat):(xH c).length=c:=by simp [xH]
def wX (z:List Int) (n:Int):Int:=if 4<z.length∨4<n then 3 else if n<0∨z.any (fun x=>decide (x<1∨32<x))=true then 1 else 0
theorem xuo {z:List Int} {n:Int} (h:wX z n=0):z.length≤4∧n≤4∧0≤n∧∀k,k<z.length→1≤z[k]!∧z[k]!≤32:=by
 unfold wX at h;split at h
 ·cases h
 ·split at h
  ·cases h
  ·rename_i h1 h2
   refine⟨ω,ω,ω,fun k hk=>?_⟩;have h3:¬z.any (fun x=>decide (x<1∨32<x))=true:=fun h=>h2 (.inr h);rw [List.any_eq_true] at h3;have h4:¬(z[k]!<1∨32<z[k]!):=fun h=>h3 ⟨z[k]!,kE hk,decide_eq_true h⟩;omega
theorem xon {z:List Int} {n:Int} (h:4<z.length∨4<n):wX z n=3:=if_pos h
theorem yhg {z:List Int} {n:Int} (h:¬(4<z.length∨4<n)) (h2:n<0):wX z n=1:=by unfold wX;rw [if_neg h,if_pos (.inl h2)]
theorem xun {z:List Int} {n:Int} (h:¬(4<z.length∨4<n)) (h2:z.any (fun x=>decide (x<1∨32<x))=true):wX z n=1:=by
 unfold wX;rw [if_neg h,if_pos (.inr h2)]
theorem xum {z:List Int} {n:Int} (h:¬(4<z.length∨4<n)) (h1:0≤n) (h2:∀k,k<z.length→1≤z[k]!∧z[k]!≤32):wX z n=0:=by
 unfold wX;rw [if_neg h,if_neg]
 rintro(h3|h3)
 ·omega
 ·obtain⟨x,hx,h4⟩:=List.any_eq_true.1 h3
  obtain⟨k,hk,rfl⟩:=List.getElem_of_mem hx;have:=h2 k hk;rw [getElem!_pos z k hk] at this;simp only [decide_eq_true_eq] at h4;omega
def xQ (z:List Int) (n:Int):List PageID×Int:=if wX z n=0 then(uB z n,0) else([],wX z n)
def szs (s:State):List Int:=s.regions.map fun l=>(l.length:Int)
theorem xeh (s:State):(szs s).length=s.regions.length:=by simp [szs]
theorem xnj {s:State} {k:Nat} (h:k<s.regions.length):(szs s)[k]! =(s.regions[k]!.length:Int):=by simp [szs,h]
theorem yw6 (s:State) (k:Nat) (h:k<s.regions.length):(szs s).take k++[(s.regions[k]!.length:Int)]=(szs s).take (k+1):=by
 rw [←xnj h,←jG (by rw [xeh];exact h)]
def shp (s:State):Bool:=decide (wX (szs s) s.threads.length=0)
theorem ydu {s:State} (h:shp s=true):wX (szs s) s.threads.length=0:=of_decide_eq_true h
structure Shp (s:State):Prop where
 r:s.regions.length≤4
 t:s.threads.length≤4
 z:∀k,k<s.regions.length→1≤s.regions[k]!.length∧s.regions[k]!.length≤32
theorem ydw {s:State} (h:shp s=true):Shp s:=by
 have h:=xuo (of_decide_eq_true h);rw [xeh] at h;refine⟨h.1,ω,fun k hk=>?_⟩;have:=h.2.2.2 k hk;rw [xnj hk] at this;omega
def zvw:View:=⟨0,0,0,0,0,0,0,[]⟩
def zpg:Page:=⟨⟨0,0⟩,[],zvw⟩
def prt (l:List Canon) (i:Int):List Canon:=if 0≤i∧i≤32 then(l.drop (8*i).toNat).take 8 else []
theorem yrl (l:List Canon) (i:Int):(prt l i).length≤8:=by unfold prt;split<;>simp;omega
def yK (s:State) (d:PageID):Page:=if d.region=-1 then⟨d,[],s.threads[d.index.toNat]!⟩ else⟨d,prt s.regions[d.region.toNat]! d.index,zvw⟩
def xch (s:State) (d:PageID):Prop:=(d.region=-1∧0≤d.index∧d.index<s.threads.length)∨(0≤d.region∧d.region<s.regions.length∧0≤d.index∧d.index≤32∧8*d.index<s.regions[d.region.toNat]!.length)
instance (s:State) (d:PageID):Decidable (xch s d):=by unfold xch;infer_instance
def pgs (s:State):List Page:=(uB (szs s) s.threads.length).map (yK s)
def sAll (s:State):List Page×Int:=if shp s=true then(pgs s,0) else([],1)
theorem ydb {s:State} (h:shp s=true):sAll s=(pgs s,0):=if_pos h
theorem ytp {s:State} (h:shp s=false):sAll s=([],1):=by unfold sAll;rw [h];rfl
theorem yao {z:List Int} {d:PageID}:∀{r:Nat},d∈kK z r→0≤d.region∧d.region<r∧0≤d.index∧8*d.index<z[d.region.toNat]!
 |0,h=>by cases h
 |r+1,h=>by
  rcases List.mem_append.1 h with h|h
  ·have:=yao h;omega
  ·obtain⟨i,hi,rfl⟩:=List.mem_map.1 h
   have:=pcn_lt.1 (List.mem_range.1 hi);dsimp only;rw [Int.toNat_natCast];omega
theorem yan {s:State} {d:PageID} (h:d∈uB (szs s) s.threads.length) (H:Shp s):xch s d:=by
 rcases List.mem_append.1 h with h|h
 ·have:=yao h
  rw [xeh] at this;obtain⟨h1,h2,h3,h4⟩:=this;have hz:=H.z d.region.toNat ω;rw [xnj ω] at h4;exact .inr ⟨h1,h2,h3,ω,h4⟩
 ·obtain⟨i,hi,rfl⟩:=List.mem_map.1 h
  have:=List.mem_range.1 hi;exact .inl ⟨rfl,by dsimp only;omega,by dsimp only;omega⟩
theorem xpt {z:List Int} (hz:∀k,k<z.length→z[k]!≤32):∀{r:Nat},r≤z.length→(kK z r).length≤4*r
 |0,_=>Nat.le_refl _
 |r+1,h=>by
  have h1:=xpt hz (r:=r) ω;have h2:=hz r ω;have h3:pcn z[r]!≤4:=by unfold pcn;omega
  rw [kK,List.length_append,xpu];omega
theorem ym2 {z:List Int} {n:Int} (h:wX z n=0):(uB z n).length≤20:=by
 obtain⟨h1,h2,h3,h4⟩:=xuo h;have:=xpt (z:=z) (fun k hk=>(h4 k hk).2) (Nat.le_refl _);rw [uB,List.length_append,xpv];omega
theorem ylv (s:State) (d:PageID):(yK s d).id=d:=by unfold yK;split<;>rfl
def psum (s:State):Nat→Nat
 |0=>0
 |r+1=>psum s r+(s.regions[r]!.length+7) / 8
theorem yc1 (s:State):∀r,r≤s.regions.length→(kK (szs s) r).length=psum s r
 |0,_=>rfl
 |r+1,h=>by
  rw [kK,List.length_append,xpu,yc1 s r ω,xnj ω,psum];unfold pcn;omega
theorem pgs_len (s:State):(pgs s).length=s.threads.length+psum s s.regions.length:=by
 unfold pgs uB;rw [List.length_map,List.length_append,xeh,yc1 s _ (Nat.le_refl _),xpv];omega
instance :Inhabited PageID:=⟨⟨0,0⟩⟩
instance :Inhabited Page:=⟨zpg⟩
theorem yoo {α β:Type} [Inhabited α] [Inhabited β] (g:α→β) (l:List α) {i:Nat} (h:i<l.length):(l.map g)[i]! =g l[i]!:=by simp [h]
theorem yr7 {s:State} {k:Nat} (h:k<(pgs s).length):(pgs s)[k]! =yK s (uB (szs s) s.threads.length)[k]!:=by
 unfold pgs at h⊢;rw [List.length_map] at h;exact yoo _ _ h
end Go.Proofs.YthmjocibdepahaaGreat.Tp
namespace Go.Proofs.YthmjocibdepahaaGreat.Tp
open Go Go.RowKit Rdn Rdn.Dp
def xqx:=aC 100
def ya0:=aC 99
def xqj:=aC 159
def xyf:=aC 98
def xqv:=aC 39
def xz4:=aC 102
def xqi:=aC 160
def xyd:=aC 101
def xbz:=aC 40
theorem ye5 (l:List PageID) (a b:Int) (r:List V):l.map xab++(V.agg [.int .i64 a,.int .i64 b]::r)=(l++[(⟨a,b⟩:PageID)]).map xab++r:=by simp
attribute [local go_sem] ye5
def badZ (n:Int):Bool:=decide (n<1∨32<n)
theorem xo4 {n:Int} (h:n<1∨32<n):badZ n=true:=aN h
theorem yg9 {n:Int} (h:¬(n<1∨32<n)):badZ n=false:=aJ h
def badL (l:List Canon):Bool:=badZ l.length
attribute [local irreducible] badZ
theorem yef (n:Int):Fnc Tryz.prog 100 [.int .i64 n] (fun x obs=>x=.bool (!badZ n)∧obs=[]):=by
 by_cases c:1≤n
 ·by_cases c2:n≤32
  ·rw [yg9 ω]
   exact aZ xqx
  ·rw [xo4 ω]
   exact aZ xqx
 ·rw [xo4 ω]
  exact aZ xqx
theorem yup (l:List Canon):Fnc Tryz.prog 99 [.sl false 4 (l.map aS)] (fun x obs=>x=.bool (badL l)∧obs=[]):=by
 refine iR ya0 (yef l.length) fun W S=>?_;refine ret ya0 [] ?_;(first|(simp only [go_sem];done)|(simp only [go_sem];((try dsimp only);(repeat' (refine And.intro ?_ ?_))<;>first|with_reducible rfl|(simp only [go_sem];done)|(simp only [go_sem];rfl)|(simp only [go_sem,badL,Bool.not_not];done)|(simp only [badL,Bool.not_not];(try simp only [go_sem]);first|done|rfl)|(simp only [go_sem];simp [badL,Bool.not_not];done)|(simp [badL,Bool.not_not];done)|rfl)))
theorem ymk (l:List (List Canon)):Fnc Tryz.prog 159 [.sl false 1 (l.map (bD false 4 aS)),.fn 99] (fun x obs=>x=.int .i64 (rV badL l)∧obs=[]):=by
 refine Fnc.wf fun hw=>?_;have hm:l.length≤140737488355328:=by
  have:=hw.1;simp only [V.wf,List.length_map] at this;exact this.2
 clear hw;refine aI xqj fun W S=>?_;refine bI [0,1,7] (fun p:{p:Nat // p≤l.length∧∀j,j<p→badL l[j]! =false}=>[(8,.int .i64 p.1)]) (fun _=>[]) (fun p=>l.length-p.1) (⟨0,by simp⟩) 0 ?_;intro J hJ
 rintro⟨k,hk0,hk1⟩
 by_cases hlt:k<l.length
 ·have hc:=yup l[k]!
  cases hb:badL l[k]! with
  |true=>
   rw [hb] at hc;have hr:=xcp (p:=badL) hlt hk1 hb;refine aA ?_;refine mW (hc) ?_;exact aX xqj hr
  |false=>
   rw [hb] at hc;have hS:∀j,j<k+1→badL l[j]! =false:=fun j hj=>by
    by_cases e:j=k
    ·subst e;exact hb
    ·exact hk1 j ω
   refine aA ?_;refine mW (hc) ?_;exact nP (hJ _ (⟨k+1,hlt,hS⟩) ψ) hlt
 ·obtain rfl:k=l.length:=ω
  have hr:=xdv (p:=badL) hk1;refine aA ?_;exact aX xqj hr
theorem yi5 (l:List (List Canon)):Fnc Tryz.prog 98 [.sl false 1 (l.map (bD false 4 aS)),.fn 99] (fun x obs=>x=.bool (l.any badL)∧obs=[]):=by
 have hr:=xey badL l;refine iR xyf (ymk l) fun W S=>?_;exact aX xyf hr
theorem yn9 (n:Int):Fnc Tryz.prog 102 [.int .i64 n] (fun x obs=>x=.bool (badZ n)∧obs=[]):=by
 refine iR xz4 (yef n) fun W S=>?_;refine ret xz4 [] ?_;(first|(simp only [go_sem];done)|(simp only [go_sem];((try dsimp only);(repeat' (refine And.intro ?_ ?_))<;>first|with_reducible rfl|(simp only [go_sem];done)|(simp only [go_sem];rfl)|(simp only [go_sem,Bool.not_not];done)|(simp only [Bool.not_not];(try simp only [go_sem]);first|done|rfl)|(simp only [go_sem];simp [Bool.not_not];done)|(simp [Bool.not_not];done)|rfl)))
theorem ymi (l:List Int):Fnc Tryz.prog 160 [.sl false 1 (l.map (V.int .i64)),.fn 102] (fun x obs=>x=.int .i64 (rV badZ l)∧obs=[]):=by
 refine Fnc.wf fun hw=>?_;have hm:l.length≤140737488355328:=by
  have:=hw.1;simp only [V.wf,List.length_map] at this;exact this.2
 clear hw;refine aI xqi fun W S=>?_;refine bI [0,1,7] (fun p:{p:Nat // p≤l.length∧∀j,j<p→badZ l[j]! =false}=>[(8,.int .i64 p.1)]) (fun _=>[]) (fun p=>l.length-p.1) (⟨0,by simp⟩) 0 ?_;intro J hJ
 rintro⟨k,hk0,hk1⟩
 by_cases hlt:k<l.length
 ·have hc:=yn9 l[k]!
  cases hb:badZ l[k]! with
  |true=>
   rw [hb] at hc;have hr:=xcp (p:=badZ) hlt hk1 hb;refine aA ?_;refine mW (hc) ?_;exact aX xqi hr
  |false=>
   rw [hb] at hc;have hS:∀j,j<k+1→badZ l[j]! =false:=fun j hj=>by
    by_cases e:j=k
    ·subst e;exact hb
    ·exact hk1 j ω
   refine aA ?_;refine mW (hc) ?_;exact nP (hJ _ (⟨k+1,hlt,hS⟩) ψ) hlt
 ·obtain rfl:k=l.length:=ω
  have hr:=xdv (p:=badZ) hk1;refine aA ?_;exact aX xqi hr
theorem yht (l:List Int):Fnc Tryz.prog 101 [.sl false 1 (l.map (V.int .i64)),.fn 102] (fun x obs=>x=.bool (l.any badZ)∧obs=[]):=by
 have hr:=xey badZ l;refine iR xyd (ymi l) fun W S=>?_;exact aX xyd hr
theorem xto {z:List Int} (h:z.any badZ=false):∀k,k<z.length→1≤z[k]!∧z[k]!≤32:=fun k hk=>by
 by_cases c:z[k]!<1∨32<z[k]!
 ·have:z.any badZ=true:=List.any_eq_true.2 ⟨z[k]!,kE hk,xo4 c⟩
  rw [this] at h;cases h
 ·omega
theorem xtp {z:List Int} (h:z.any badZ=true):z.any (fun x=>decide (x<1∨32<x))=true:=by
 obtain⟨x,hx,h1⟩:=List.any_eq_true.1 h;exact List.any_eq_true.2 ⟨x,hx,by unfold badZ at h1;exact h1⟩
theorem yw4 (s:State):(szs s).any badZ=s.regions.any badL:=by simp only [szs,List.any_map];rfl
theorem shp_eq (s:State) (h1:s.regions.length≤4) (h2:s.threads.length≤4):shp s=!(s.regions.any badL):=by
 rw [←yw4];cases h:(szs s).any badZ with
 |true=>
  unfold shp;rw [xun (by rw [xeh];omega) (xtp h)];rfl
 |false=>
  unfold shp;rw [xum (by rw [xeh];omega) ω (xto h)];rfl
theorem ydv (s:State) (h:4<s.regions.length∨4<s.threads.length):shp s=false:=by
 unfold shp;rw [xon (by rw [xeh];omega)];rfl
theorem yuq (s:State):Fnc Tryz.prog 39 [xdc s] (fun x obs=>x=.bool (shp s)∧obs=[]):=by
 have fc:=yi5 s.regions;by_cases c1:s.regions.length≤4
 ·by_cases c2:s.threads.length≤4
  ·rw [shp_eq s c1 c2]
   exact eY xqv fc
  ·rw [ydv s ω]
   exact aZ xqv
 ·rw [ydv s ω]
  exact aZ xqv
attribute [local irreducible] xG kK xH pcn
theorem yrc (z:List Int) (n:Int):Fnc Tryz.prog 40 [.sl false 1 (bH z),.int .i64 n] (fun x obs=>x=.tup [.sl false 2 ((xQ z n).1.map xab),.int .i64 (xQ z n).2]∧obs=[]):=by
 refine Fnc.low ?_;refine Fnc.wf fun hw=>?_;simp only [V.wfs,V.wf,lW,List.length_map] at hw;have hm:=hw.1.2;clear hw;have fb:=yht z;by_cases c1:4<z.length
 ·have hr:xQ z n=([],3):=by unfold xQ;rw [xon (.inl c1)];rfl
  refine aI xbz fun W S=>?_;refine tZ 4 true 2 rfl ?_;exact aX xbz hr
 by_cases c2:4<n
 ·have hr:xQ z n=([],3):=by unfold xQ;rw [xon (.inr c2)];rfl
  refine aI xbz fun W S=>?_;refine tZ 4 true 2 rfl ?_;exact aX xbz hr
 by_cases c3:n<0
 ·have hr:xQ z n=([],1):=by unfold xQ;rw [yhg ω c3];rfl
  refine aI xbz fun W S=>?_;refine tZ 4 true 2 rfl ?_;exact aX xbz hr
 cases c4:z.any badZ with
 |true=>
  have hr:xQ z n=([],1):=by unfold xQ;rw [xun ω (xtp c4)];rfl
  rw [c4] at fb;refine iR xbz fb fun W S=>?_;refine tZ 4 true 2 rfl ?_;exact aX xbz hr
 |false=>
  have hz:=xto c4;have hr:xQ z n=(uB z n,0):=by unfold xQ;rw [xum ω ω hz];rfl
  rw [c4] at fb;refine iR xbz fb fun W S=>?_;refine pW (i:=6) (e:=65) (s:=2) rfl δ ?_;refine gY [1,24,25] (fun p:{p:Nat // p≤z.length}=>[(6,.own 0 (kK z p.1).length),(26,.int .i64 p.1)]) (fun p=>[⟨.row 65,true,(kK z p.1).length,.arr 2 ((kK z p.1).map xab)⟩]) (fun p=>z.length-p.1) (⟨0,by simp⟩) 1 τ ?_ (by first|rfl|(simp only [go_sem];done)|(simp only [go_sem];simp [kK];done)) ξ φ φ (by first|rfl|(simp only [go_sem];done)|(simp only [kK];(try simp only [go_sem]);first|done|rfl)) ?_
  ·(simp only [go_sem];(try simp [kK]);done)
  intro J hJ
  rintro⟨p,hp⟩
  have hg:=xpt (fun k hk=>(hz k hk).2) hp;have hJ0:=hJ;by_cases hlt:p<z.length
  ·have hzp:=hz p hlt
   have hpc:=yr2 (hz p hlt).2;have z1:xG p 0=[]:=ym5 p;refine aA ?_;refine gY [1,7,8,24,25,26] (fun q:{q:Nat // q≤pcn z[p]!}=>[(6,.own 0 ((kK z p).length+q.1)),(9,.int .i64 q.1)]) (fun q=>[⟨.row 65,true,(kK z p).length+q.1,.arr 2 ((kK z p++xG p q.1).map xab)⟩]) (fun q=>pcn z[p]!-q.1) (⟨0,by simp⟩) 1 τ ?_ (by first|rfl|(simp only [go_sem];done)|(simp only [go_sem];simp [z1,List.append_nil];done)) ξ φ φ (by first|rfl|(simp only [go_sem];done)|(simp only [z1,List.append_nil];(try simp only [go_sem]);first|done|rfl)) ?_
   ·(simp only [go_sem];(try simp [z1,List.append_nil]);done)
   intro J hJ
   rintro⟨q,hq⟩
   have hq':=pcn_lt (n:=z[p]!) (i:=q);have hql:=xpu p q;by_cases hlq:q<pcn z[p]!
   ·have hq':=hq'.1 hlq
    have hs:kK z p++xG p q++[(⟨p,q⟩:PageID)]=kK z p++xG p (q+1):=by rw [List.append_assoc,ym4]
    have hgn:(kK z p).length+q≤1000:=ω;refine aA ?_;refine lI 1 (hJ _ (⟨q+1,hlq⟩) ψ) rfl ξ ?_ φ (by first|rfl|(simp only [go_sem];done)|(simp only [hs,Nat.add_assoc];(try simp only [go_sem]);first|done|rfl)) ?_
    ·(first|rfl|(simp only [go_sem];done)|(simp only [go_sem];simp only [hs,Nat.add_assoc];done)|(simp only [hs,Nat.add_assoc];done)|(simp only [go_sem];simp [hs,Nat.add_assoc];done)|(simp [hs,Nat.add_assoc];done))
    ·(simp only [go_sem];(repeat' (refine And.intro ?_ ?_))<;>first|exact trivial|with_reducible rfl|(simp only [hs,Nat.add_assoc];done)|(simp only [hs,Nat.add_assoc];with_reducible rfl)|(simp [hs,Nat.add_assoc];done)|(simp [hs,Nat.add_assoc];omega)|(simp only [hs,Nat.add_assoc];rfl)|skip)
   ·have hq':¬8*(q:Int)<z[p]!:=fun h=>hlq (hq'.2 h)
    obtain rfl:q=pcn z[p]!:=ω;have hJ:=hJ0;have hs:=ym3 z p;have hpc4:pcn z[p]!≤4:=hpc;have hgl:(kK z p).length+pcn z[p]! =(kK z (p+1)).length:=by rw [←hs,List.length_append,hql]
    dsimp only;rw [hs,hgl];refine aA ?_;refine lI 1 (hJ _ (⟨p+1,hlt⟩) ψ) rfl ξ ?_ φ φ ?_
    ·(first|rfl|(simp only [go_sem];done)|(simp only [go_sem];simp only [];done)|(simp only [];done)|(simp only [go_sem];simp [];done)|(simp [];done))
    ·(simp only [go_sem];(repeat' (refine And.intro ?_ ?_))<;>first|exact trivial|with_reducible rfl|(simp only [];done)|(simp only [];with_reducible rfl)|(simp [];done)|(simp [];omega)|(simp only [];rfl)|skip)
  ·obtain rfl:p=z.length:=ω
   have z1:xH 0=[]:=ym7;refine aA ?_;refine gY [44] (fun q:{q:Nat // (q:Int)≤n}=>[(6,.own 0 ((kK z z.length).length+q.1)),(45,.int .i64 q.1)]) (fun q=>[⟨.row 65,true,(kK z z.length).length+q.1,.arr 2 ((kK z z.length++xH q.1).map xab)⟩]) (fun q=>n.toNat-q.1) (⟨0,ω⟩) 1 τ ?_ (by first|rfl|(simp only [go_sem];done)|(simp only [go_sem];simp [z1,List.append_nil];done)) ξ φ φ (by first|rfl|(simp only [go_sem];done)|(simp only [z1,List.append_nil];(try simp only [go_sem]);first|done|rfl)) ?_
   ·(simp only [go_sem];(try simp [z1,List.append_nil]);done)
   intro J hJ
   rintro⟨q,hq⟩
   have hql:=xpv q;by_cases hlq:(q:Int)<n
   ·have hs:kK z z.length++xH q++[(⟨-1,q⟩:PageID)]=kK z z.length++xH (q+1):=by rw [List.append_assoc,ym6]
    have hgn:(kK z z.length).length+q≤1000:=ω;refine aA ?_;refine lI 1 (hJ _ (⟨q+1,ω⟩) ψ) rfl ξ ?_ φ (by first|rfl|(simp only [go_sem];done)|(simp only [hs,Nat.add_assoc];(try simp only [go_sem]);first|done|rfl)) ?_
    ·(first|rfl|(simp only [go_sem];done)|(simp only [go_sem];simp only [hs,Nat.add_assoc];done)|(simp only [hs,Nat.add_assoc];done)|(simp only [go_sem];simp [hs,Nat.add_assoc];done)|(simp [hs,Nat.add_assoc];done))
    ·(simp only [go_sem];(repeat' (refine And.intro ?_ ?_))<;>first|exact trivial|with_reducible rfl|(simp only [hs,Nat.add_assoc];done)|(simp only [hs,Nat.add_assoc];with_reducible rfl)|(simp [hs,Nat.add_assoc];done)|(simp [hs,Nat.add_assoc];omega)|(simp only [hs,Nat.add_assoc];rfl)|skip)
   ·obtain rfl:q=n.toNat:=ω
    have hF:kK z z.length++xH n.toNat=uB z n:=rfl;dsimp only;rw [hF];refine aA ?_;exact aX xbz hr
end Go.Proofs.YthmjocibdepahaaGreat.Tp
namespace Go.Proofs.YthmjocibdepahaaGreat.Tp
open Go Go.RowKit Rdn Rdn.Dp
def xzn:=aC 41
def xby:=aC 105
def xq9:=aC 104
def yof:=aC 103
def xlq:=aC 42
def xlv:=aC 13
attribute [local irreducible] uB shp
theorem xuh (l:List Canon) (hb:l.length≤5864062014634):Fnc Tryz.prog 104 [.sl false 4 (l.map aS)] (fun x obs=>x=.sl true 4 (l.map aS)∧obs=[]):=by
 refine Fnc.intro xq9 ξ fun W S=>?_;simp only [ents,Nat.zero_add,Nat.reduceAdd,Qm,Qc,Ql,QL,Qf,Qs,Qb,Qk,QB,Qn,Qe,Qx,Qt,Qu,Q0,Q1,Qp,Qw,Qq,Qr,Qi];refine bF ?_;refine cZ ?_;refine bF ?_;refine kZ ?_;refine xew rfl trivial ?_;refine xgc rfl rfl fun b hb0=>?_;cases b with
 |false=>
  simp only [iF,X.ev,aV,AS.put,if_true];refine aA ?_;exact aU xq9
 |true=>
  have hl:l=[]:=by
   cases l with
   |nil=>rfl
   |cons a l=>exact absurd (hb0 ξ) ξ
  subst hl;simp only [iF,X.ev,aV,AS.put,if_true];refine bF ?_;refine cZ ?_;refine bF ?_;refine tZ 2 true 4 rfl ?_;exact aU xq9
structure LowS (s:State):Prop where
 r:s.regions.length≤5864062014634
 c:∀x∈s.regions,x.length≤5864062014634
 t:s.threads.length≤5864062014634
 g:∀x∈s.threads,x.regs.length≤5864062014634
theorem yrn (s:State) (L:s.regions.length≤5864062014634):Fnc Tryz.prog 41 [xdc s] (fun x obs=>x=.sl true 1 (bH (szs s))∧obs=[]):=by
 have hl:=xeh s;refine aI xzn fun W S=>?_;refine pW (i:=3) (e:=3) (s:=1) rfl δ ?_;refine bI [7,8] (fun p:{p:Nat // p≤s.regions.length}=>[(3,.own 1 p.1),(9,.int .i64 p.1)]) (fun p=>[⟨.box false 50,true,0,xdc s⟩,⟨.row 3,true,p.1,.arr 1 (bH ((szs s).take p.1))⟩]) (fun p=>s.regions.length-p.1) (⟨0,by simp⟩) 2 ?_;intro J hJ
 rintro⟨k,hk0⟩
 by_cases hlt:k<s.regions.length
 ·have hs:=yw6 s k hlt
  refine aA ?_;exact vW (hJ _ (⟨k+1,hlt⟩) ψ) hs
 ·obtain rfl:k=s.regions.length:=ω
  have ht:(szs s).take s.regions.length=szs s:=List.take_of_length_le ω;dsimp only;rw [ht];refine aA ?_;exact aU xzn
theorem xrw {l:List Canon} {i:Int} (h:i<0∨32<i∨(l.length:Int)≤8*i):prt l i=[]:=by
 unfold prt;split
 ·rw [List.drop_eq_nil_of_le ω];rfl
 ·rfl
theorem yrm {l:List Canon} {i:Int} (h:0≤i) (h2:i≤32):prt l i=(l.take (min (8*i+8) (l.length:Int)).toNat).drop (8*i).toNat:=by
 unfold prt;rw [if_pos ⟨h,h2⟩,List.take_drop];by_cases c:8*i+8≤(l.length:Int)
 ·rw [show(min (8*i+8) (l.length:Int)).toNat=(8*i).toNat+8 by omega,Nat.add_comm]
 ·rw [show(min (8*i+8) (l.length:Int)).toNat=l.length by omega,List.take_of_length_le (i:=l.length) (Nat.le_refl _),List.take_of_length_le ω]
theorem yr0 (l:List Canon) (i:Int):Fnc Tryz.prog 105 [.sl false 4 (l.map aS),.int .i64 i] (fun x obs=>x=.sl false 4 ((prt l i).map aS)∧obs=[]):=by
 refine Fnc.low ?_;refine Fnc.wf fun hw=>?_;simp only [V.wfs,V.wf,lW,List.length_map] at hw;have hm:=hw.1.2;have hi:=xpw hw.2.1;clear hw;by_cases c1:i<0
 ·rw [xrw (.inl c1)]
  refine aI xby fun W S=>?_;refine tZ 4 true 4 rfl ?_;exact aU xby
 by_cases c2:32<i
 ·rw [xrw (.inr (.inl c2))]
  refine aI xby fun W S=>?_;refine tZ 4 true 4 rfl ?_;exact aU xby
 by_cases c3:(l.length:Int)≤8*i
 ·rw [xrw (.inr (.inr c3))]
  refine aI xby fun W S=>?_;refine tZ 4 true 4 rfl ?_;exact aU xby
 have hp:=yrm (l:=l) ω (Int.not_lt.1 c2);have h8:i*8=8*i:=Int.mul_comm _ _;have hT:(l.map aS).take l.length=l.map aS:=List.take_of_length_le ξ;by_cases c4:8*i+8≤(l.length:Int)
 ·rw [show min (8*i+8) (l.length:Int)=8*i+8 by omega] at hp
  rw [hp];have hD:((l.map aS).take (i*8+8).toNat).drop (i*8).toNat=((l.take (8*i+8).toNat).drop (8*i).toNat).map aS:=by rw [h8,List.map_drop,List.map_take]
  refine aI xby fun W S=>?_;exact aX xby hD
 ·rw [show min (8*i+8) (l.length:Int)=l.length by omega] at hp
  rw [hp];have hD:((l.map aS).take l.length).drop (i*8).toNat=(l.drop (8*i).toNat).map aS:=by rw [h8,hT,List.map_drop]
  refine aI xby fun W S=>?_;exact aX xby hD
abbrev yfn:V:=.agg [.int .i64 0,.int .i64 0,.int .i64 0,.int .i64 0,.int .i64 0,.int .i64 0,.int .u16 0,.nilS]
theorem yxu (t:Bool):SubV yfn (oG t zvw):=SubV.agg ⟨SubV.refl _,SubV.refl _,SubV.refl _,SubV.refl _,SubV.refl _,SubV.refl _,SubV.refl _,SubV.nil _ _,trivial⟩
theorem yr6 (d:PageID) (v:View):SubV (.agg [xab d,.nilS,oG true v]) (pgV true ⟨d,[],v⟩):=SubV.agg ⟨SubV.refl _,SubV.nil _ _,SubV.refl _,trivial⟩
theorem yr5 (d:PageID) (c:List Canon):SubV (.agg [xab d,.sl true 4 (c.map aS),yfn]) (pgV true ⟨d,c,zvw⟩):=SubV.agg ⟨SubV.refl _,SubV.refl _,yxu _,trivial⟩
theorem yx5 (v:View) (h:v.regs.length≤5864062014634):Fnc Tryz.prog 103 [oG false v] (fun x obs=>x=oG true v∧obs=[]):=by
 exact eY yof (xuh v.regs ω)
theorem ylw (s:State) (d:PageID) (L:LowS s) (h:xch s d):Fnc Tryz.prog 42 [xdc s,xab d] (fun x obs=>x=pgV true (yK s d)∧obs=[]):=by
 by_cases c0:d.region=-1
 ·have h1:0≤d.index∧d.index<s.threads.length:=by unfold xch at h;omega
  have fv:=yx5 s.threads[d.index.toNat]! (L.g _ (kE ω));have hr:yK s d=⟨d,[],s.threads[d.index.toNat]!⟩:=if_pos c0;rw [hr];refine iR xlq fv fun W S=>?_;refine vI 2 _ rfl (yr6 _ _) rfl ?_;exact aU xlq
 ·have h1:0≤d.region∧d.region<s.regions.length:=by unfold xch at h;omega
  have hr:yK s d=⟨d,prt s.regions[d.region.toNat]! d.index,zvw⟩:=if_neg c0;have fp:=yr0 s.regions[d.region.toNat]! d.index;have hl:=yrl s.regions[d.region.toNat]! d.index;have fc:=xuh (prt s.regions[d.region.toNat]! d.index) ω;rw [hr];refine qK xlq fp fc fun W S=>?_;refine vI 2 _ rfl (yr5 _ _) rfl ?_;exact aU xlq
theorem ytu {s:State} (h:shp s=true):xQ (szs s) s.threads.length=(uB (szs s) s.threads.length,0):=by
 have h:=ydu h;unfold xQ;rw [if_pos h]
theorem xx4 {s:State} (h:shp s=true):(uB (szs s) s.threads.length).length≤20:=ym2 (ydu h)
theorem pall_fn (s:State) (L:LowS s):Fnc Tryz.prog 13 [xdc s] (fun x obs=>x=.tup [.sl true 11 ((sAll s).1.map (pgV true)),.int .i64 (sAll s).2]∧obs=[]):=by
 have f1:=yuq s;cases c1:shp s with
 |false=>
  rw [c1] at f1;rw [ytp c1];refine iR xlv f1 fun W S=>?_;refine tZ 2 true 11 rfl ?_;exact aU xlv
 |true=>
  rw [c1] at f1;rw [ydb c1];have f2:=yrn s L.r;have f3:=yrc (szs s) s.threads.length;rw [ytu c1] at f3;have hn:=xx4 c1;have hT:∀k,k<(uB (szs s) s.threads.length).length→xch s (uB (szs s) s.threads.length)[k]!:=fun k hk=>yan (kE hk) (ydw c1);have hP:pgs s=(uB (szs s) s.threads.length).map (yK s):=rfl;generalize uB (szs s) s.threads.length=D at f3 hn hT hP;rw [hP];refine zH3 xlv f1 f2 f3 fun W S=>?_;refine pW (i:=6) (e:=70) (s:=11) rfl δ ?_;refine bI [1,21,22] (fun p:{p:Nat // p≤D.length}=>[(6,.own 1 p.1),(23,.int .i64 p.1)]) (fun p=>[⟨.box false 50,true,0,xdc s⟩,⟨.row 70,true,p.1,.arr 11 (((D.take p.1).map (yK s)).map (pgV true))⟩]) (fun p=>D.length-p.1) (⟨0,by simp⟩) 2 ?_;intro J hJ
  rintro⟨k,hk0⟩
  by_cases hlt:k<D.length
  ·have f4:=ylw s D[k]! L (hT k hlt)
   have hs:((D.take k).map (yK s)).map (pgV true)++[pgV true (yK s D[k]!)]=((D.take (k+1)).map (yK s)).map (pgV true):=by rw [jG hlt,List.map_append,List.map_append];rfl
   have hgl:((D.take k).map (yK s)).length=k:=by rw [List.length_map,List.length_take];omega
   refine aA ?_;refine aF (f4) ?_;exact vW (hJ _ (⟨k+1,hlt⟩) ψ) hs
  ·obtain rfl:k=D.length:=ω
   dsimp only;rw [List.take_length];refine aA ?_;exact aU xlv
end Go.Proofs.YthmjocibdepahaaGreat.Tp
namespace Go.Proofs.YthmjocibdepahaaGreat.Tp
open Go Go.RowKit Rdn Rdn.Dp
attribute [local irreducible] uB shp
attribute [local go_sem] ye5
attribute [local irreducible] xG kK xH pcn
end Go.Proofs.YthmjocibdepahaaGreat.Tp
namespace Go.Proofs.YthmjocibdepahaaGreat.Tp
open Go Go.RowKit Rdn Rdn.Dp
def xz8:=aC 89
def xy7:=aC 158
def xit:=aC 91
def xxx:=aC 36
def ya8:=aC 35
def eH (n:Int):List Int:=[n % 18446744073709551616 % 256,n % 18446744073709551616 / 256 % 256,n % 18446744073709551616 / 65536 % 256,n % 18446744073709551616 / 16777216 % 256,n % 18446744073709551616 / 4294967296 % 256,n % 18446744073709551616 / 1099511627776 % 256,n % 18446744073709551616 / 281474976710656 % 256,n % 18446744073709551616 / 72057594037927936]
theorem yn4 (n:Int):(eH n).length=8:=rfl
theorem yn5 {α:Type} (f:Int→α) (n:Int):((eH n).map f).take 8=(eH n).map f:=rfl
def wW (c:Canon):List Int:=[c.tag,c.val % 256,c.val / 256]++(eH c.region++eH c.offset)
theorem yh1 (c:Canon):(wW c).length=19:=rfl
def xdy (l:List Canon):List Int:=eH l.length++l.flatMap wW
theorem xi1 (s:Int) (l m:List Int):fE s (l++m)=fE (fE s l) m:=by simp [fE]
theorem ylj (l:List Canon) (c:Canon):(l++[c]).flatMap wW=l.flatMap wW++wW c:=by simp
def xei (v:View):List Int:=eH v.state++(eH v.pc++(eH v.count++(eH v.handler++(eH v.saved++(eH v.trap++([v.code % 256,v.code / 256]++xdy v.regs))))))
attribute [local go_sem] yn4 yn5 yh1
theorem xcu (n:Int):Fnc Tryz.prog 89 [.int .i64 n] (fun x obs=>x=.arr 1 (nO (eH n))∧obs=[]):=by
 refine aI xz8 fun W S=>?_;refine fU 9 ?_;refine aA ?_;refine ret xz8 [] ?_;(first|(simp only [go_sem];done)|(simp only [go_sem];((try dsimp only);(repeat' (refine And.intro ?_ ?_))<;>first|with_reducible rfl|(simp only [go_sem];done)|(simp only [go_sem];rfl)|(simp only [go_sem,eH];done)|(simp only [eH];(try simp only [go_sem]);first|done|rfl)|(simp only [go_sem];simp [eH];done)|(simp [eH];done)|rfl)))
attribute [local irreducible] eH
theorem ygp (c:Canon):Fnc Tryz.prog 158 [aS c] (fun x obs=>x=.sl true 1 (nO (wW c))∧obs=[]):=by
 refine Fnc.wf fun hw=>?_;simp only [V.wfs,V.wf,lW,List.length_map] at hw;have hv:=xbu hw.1.2.1;refine aI xy7 fun W S=>?_;refine kV (xcu c.region) ?_;refine aA ?_;refine kV (xcu c.offset) ?_;refine aA ?_;refine ret xy7 [] ?_;(first|(simp only [go_sem];done)|(simp only [go_sem];((try dsimp only);(repeat' (refine And.intro ?_ ?_))<;>first|with_reducible rfl|(simp only [go_sem];done)|(simp only [go_sem];rfl)|(simp only [go_sem,wW];done)|(simp only [wW];(try simp only [go_sem]);first|done|rfl)|(simp only [go_sem];simp [wW];done)|(simp [wW];done)|rfl)))
theorem xhy (s:Int) (l:List Canon):Fnc Tryz.prog 91 [.int .u32 s,.sl false 4 (l.map aS)] (fun x obs=>x=.int .u32 (fE s (xdy l))∧obs=[]):=by
 refine Fnc.wf fun hw=>?_;simp only [V.wfs,V.wf,lW,List.length_map] at hw;obtain⟨hs,⟨hl,hm⟩,_⟩:=hw;refine aI xit fun W S=>?_;refine kV (xcu l.length) ?_;refine aA ?_;refine kV (xam s (eH l.length)) ?_;refine aA ?_;refine bI [14,15] (fun p:{p:Nat // p≤l.length}=>[(0,.int .u32 (fE s (eH l.length++(l.take p.1).flatMap wW))),(16,.int .i64 p.1)]) (fun _=>[]) (fun p=>l.length-p.1) (⟨0,by simp⟩) 0 ?_;intro J hJ
 rintro⟨k,hk0⟩
 by_cases hlt:k<l.length
 ·skip
  refine aA ?_;refine kV (ygp l[k]!) ?_;refine aA ?_;refine kV (xam (fE s (eH l.length++(l.take k).flatMap wW)) (wW l[k]!)) ?_;refine aA ?_;exact nP (hJ _ (⟨k+1,hlt⟩) ψ) (And.intro (jG hlt) (And.intro ylj xi1))
 ·obtain rfl:k=l.length:=ω
  have hlb:eH l.length++l.flatMap wW=xdy l:=rfl;dsimp only;rw [List.take_length,hlb];refine aA ?_;refine ret xit [] ?_;(first|(simp only [go_sem];done)|(simp only [go_sem];((try dsimp only);(repeat' (refine And.intro ?_ ?_))<;>first|with_reducible rfl|(simp only [go_sem];done)|(simp only [go_sem];rfl)|(simp only [];(try simp only [go_sem]);first|done|rfl)|(simp only [go_sem];simp [];done)|(simp [];done)|rfl)))
attribute [local irreducible] xdy
theorem yfo (l:List Canon):Fnc Tryz.prog 36 [.sl false 4 (l.map aS)] (fun x obs=>x=.int .u32 (fE 2166136261 (xdy l))∧obs=[]):=by
 refine aI xxx fun W S=>?_;refine kV (xhy 2166136261 l) ?_;refine aA ?_;refine ret xxx [] ?_;(first|(simp only [go_sem];done)|(simp only [go_sem];((try dsimp only);(repeat' (refine And.intro ?_ ?_))<;>first|with_reducible rfl|(simp only [go_sem];done)|(simp only [go_sem];rfl)|(simp only [];(try simp only [go_sem]);first|done|rfl)|(simp only [go_sem];simp [];done)|(simp [];done)|rfl)))
theorem ywk (v:View):Fnc Tryz.prog 35 [oG false v] (fun x obs=>x=.int .u32 (fE 2166136261 (xei v))∧obs=[]):=by
 refine Fnc.wf fun hw=>?_;simp only [V.wfs,V.wf,lW,List.length_map] at hw;have hv:=xbu hw.1.2.2.2.2.2.2.1;refine aI ya8 fun W S=>?_;refine fU 7 ?_;refine aA ?_;refine kV (xcu v.state) ?_;refine aA ?_;refine kV (xam 2166136261 (eH v.state)) ?_;refine aA ?_;refine kV (xcu v.pc) ?_;refine aA ?_;refine kV (xam (fE 2166136261 (eH v.state)) (eH v.pc)) ?_;refine aA ?_;refine kV (xcu v.count) ?_;refine aA ?_;refine kV (xam (fE (fE 2166136261 (eH v.state)) (eH v.pc)) (eH v.count)) ?_;refine aA ?_;refine kV (xcu v.handler) ?_;refine aA ?_;refine kV (xam (fE (fE (fE 2166136261 (eH v.state)) (eH v.pc)) (eH v.count)) (eH v.handler)) ?_;refine aA ?_;refine kV (xcu v.saved) ?_;refine aA ?_;refine kV (xam (fE (fE (fE (fE 2166136261 (eH v.state)) (eH v.pc)) (eH v.count)) (eH v.handler)) (eH v.saved)) ?_;refine aA ?_;refine kV (xcu v.trap) ?_;refine aA ?_;refine kV (xam (fE (fE (fE (fE (fE 2166136261 (eH v.state)) (eH v.pc)) (eH v.count)) (eH v.handler)) (eH v.saved)) (eH v.trap)) ?_;refine aA ?_;refine kV (xam (fE (fE (fE (fE (fE (fE 2166136261 (eH v.state)) (eH v.pc)) (eH v.count)) (eH v.handler)) (eH v.saved)) (eH v.trap)) [v.code % 256,v.code / 256]) ?_;refine aA ?_;refine kV (xhy (fE (fE (fE (fE (fE (fE (fE 2166136261 (eH v.state)) (eH v.pc)) (eH v.count)) (eH v.handler)) (eH v.saved)) (eH v.trap)) [v.code % 256,v.code / 256]) v.regs) ?_;refine aA ?_;refine ret ya8 [] ?_;(first|(simp only [go_sem];done)|(simp only [go_sem];((try dsimp only);(repeat' (refine And.intro ?_ ?_))<;>first|with_reducible rfl|(simp only [go_sem];done)|(simp only [go_sem];rfl)|(simp only [go_sem,xei,xi1];done)|(simp only [xei,xi1];(try simp only [go_sem]);first|done|rfl)|(simp only [go_sem];simp [xei,xi1];done)|(simp [xei,xi1];done)|rfl)))
end Go.Proofs.YthmjocibdepahaaGreat.Tp
namespace Go.Proofs.YthmjocibdepahaaGreat.Tp
open Go Go.RowKit Rdn Rdn.Dp
attribute [local irreducible] xbq
attribute [local irreducible] iG dK uX up
attribute [local irreducible] xfl
end Go.Proofs.YthmjocibdepahaaGreat.Tp
namespace Go.Proofs.YthmjocibdepahaaGreat.Tp
open Go Go.RowKit Rdn Rdn.Dp
def xm4:=aC 11
attribute [local irreducible] uB shp xdy xei fE iG
def dgP (p:Page):Int:=if p.id.region=-1 then fE 2166136261 (xei p.view) else fE 2166136261 (xdy p.cells)
def dls (s:State):List Int:=(pgs s).map dgP
theorem dls_len (s:State):(dls s).length=(pgs s).length:=by simp [dls]
theorem yra {s:State} (h:shp s=true):(pgs s).length≤20:=by unfold pgs;rw [List.length_map];exact xx4 h
theorem yr9 {s:State} (h:shp s=true) {k:Nat} (hk:k<(pgs s).length):xch s (pgs s)[k]!.id:=by
 rw [yr7 hk,ylv];unfold pgs at hk;rw [List.length_map] at hk;exact yan (kE hk) (ydw h)
theorem yiy {s:State} {k:Nat} (hk:k<(pgs s).length):((pgs s).take k).map dgP++[dgP (pgs s)[k]!]=((pgs s).take (k+1)).map dgP:=by rw [jG hk,List.map_append];rfl
attribute [local irreducible] pgs dgP
theorem yit {p:Page} (h:p.id.region=-1):dgP p=fE 2166136261 (xei p.view):=by unfold dgP;rw [if_pos h]
theorem yis {p:Page} (h:p.id.region≠-1):dgP p=fE 2166136261 (xdy p.cells):=by unfold dgP;rw [if_neg h]
theorem ywo (s:State) (L:LowS s) (h:shp s=true) (T:V) (e:Int) (hB:Fnc Tryz.prog 37 [zT (dls s)] (fun x obs=>x=.tup [.agg [T],.int .i64 e]∧obs=[])) (hTT:(∃B:List (List Int),T=.sl false 1 (B.map zT))∨T=.nilS∨∃B:List (List Int),T=.sl true 1 (B.map dtV)):Fnc Tryz.prog 11 [xdc s] (fun x obs=>x=.tup [.agg [T],.int .i64 e]∧obs=[]):=by
 have f1:=pall_fn s L;rw [ydb h] at f1;have hn:=yra h;have hT:=fun k hk=>yr9 (s:=s) h (k:=k) hk;have hS:=fun k hk=>yiy (s:=s) (k:=k) hk;have hP:(pgs s).map dgP=dls s:=rfl;generalize pgs s=D at f1 hn hT hS hP;refine aI xm4 fun W S=>?_;refine kV (f1) ?_;refine aA ?_;refine pW (i:=6) (e:=76) (s:=1) rfl δ ?_;refine bI [2,18,19] (fun p:{p:Nat // p≤D.length}=>[(6,.own 2 p.1),(20,.int .i64 p.1)]) (fun p=>[⟨.box false 50,true,0,xdc s⟩,⟨.box false 54,true,0,.agg [.nilS]⟩,⟨.row 76,true,p.1,.arr 1 (xhl ((D.take p.1).map dgP))⟩]) (fun p=>D.length-p.1) (⟨0,by simp⟩) 3 ?_;intro J hJ
 rintro⟨k,hk0⟩
 by_cases hlt:k<D.length
 ·have ht:=hT k hlt
  have hs:=hS k hlt;by_cases c:D[k]!.id.region=-1
  ·have hd:=yit c
   rw [hd] at hs;refine aA ?_;refine kV (ywk D[k]!.view) ?_;refine aA ?_;exact zn3 (hJ _ (⟨k+1,hlt⟩) ψ) hs
  ·have hd:=yis c
   rw [hd] at hs;have c2:¬D[k]!.id.region<0:=by unfold xch at ht;omega
   refine aA ?_;refine kV (yfo D[k]!.cells) ?_;refine aA ?_;exact zn3 (hJ _ (⟨k+1,hlt⟩) ψ) hs
 ·obtain rfl:k=D.length:=ω
  dsimp only;rw [List.take_length,hP];rcases hTT with ⟨B,rfl⟩|rfl|⟨B,rfl⟩
  ·skip
   refine aA ?_;refine xi9 ?_;(refine bK ?_);(first|refine xdl (hB) ?_|refine xdn (hB) ?_);simp only [go_sem];refine aA ?_;refine ret xm4 [] ?_;(first|(simp only [go_sem];done)|(simp only [go_sem];((try dsimp only);(repeat' (refine And.intro ?_ ?_))<;>first|with_reducible rfl|(simp only [go_sem];done)|(simp only [go_sem];rfl)|(simp only [];(try simp only [go_sem]);first|done|rfl)|(simp only [go_sem];simp [];done)|(simp [];done)|rfl)))
  ·skip
   refine aA ?_;refine xi9 ?_;(refine bK ?_);(first|refine xdl (hB) ?_|refine xdn (hB) ?_);simp only [go_sem];refine aA ?_;refine ret xm4 [] ?_;(first|(simp only [go_sem];done)|(simp only [go_sem];((try dsimp only);(repeat' (refine And.intro ?_ ?_))<;>first|with_reducible rfl|(simp only [go_sem];done)|(simp only [go_sem];rfl)|(simp only [];(try simp only [go_sem]);first|done|rfl)|(simp only [go_sem];simp [];done)|(simp [];done)|rfl)))
  ·skip
   refine aA ?_;refine xi9 ?_;(refine bK ?_);(first|refine xdl (hB) ?_|refine xdn (hB) ?_);simp only [go_sem];refine aA ?_;refine ret xm4 [] ?_;(first|(simp only [go_sem];done)|(simp only [go_sem];((try dsimp only);(repeat' (refine And.intro ?_ ?_))<;>first|with_reducible rfl|(simp only [go_sem];done)|(simp only [go_sem];rfl)|(simp only [];(try simp only [go_sem]);first|done|rfl)|(simp only [go_sem];simp [];done)|(simp [];done)|rfl)))
end Go.Proofs.YthmjocibdepahaaGreat.Tp
