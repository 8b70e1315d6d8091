import Derived.Test.YtbgpfigkcpmnfaaGreatA8
import Derived.Test.YtbgpfigkcpmnfaaGreatA5
import Derived.Test.YtbgpfigkcpmnfaaGreatA6
set_option linter.unusedSimpArgs false
set_option linter.unusedVariables false
set_option maxHeartbeats 64000000
set_option maxRecDepth 100000
namespace Go.Proofs.YtbgpfigkcpmnfaaGreat
open Go Go.RowKit Rdn Rdn.Dp
theorem ydz {a n:Int} (hn:0<n) (h:a.tmod n<0):a.tmod n+n=a % n:=by
 rw [Int.tmod_eq_emod] at h⊢;have h1:=Int.emod_nonneg a (show n≠0 by omega);split at h
 ·omega
 ·rename_i hh;rw [if_neg hh];omega
theorem ye0 {a n:Int} (hn:0<n) (h:¬a.tmod n<0):a.tmod n=a % n:=by
 rw [Int.tmod_eq_emod] at h⊢;have h2:=Int.emod_lt_of_pos a hn;split at h
 ·rename_i hh;rw [if_pos hh];omega
 ·omega
theorem xta (a n:Int) (hn:0<n):Fnc Tryz.prog 50 [.int .i64 a,.int .i64 n] (fun x obs=>x=.int .i64 (a % n)∧obs=[]):=by
 refine zcf Tryz.prog 50 fun mz=>?_;refine Fnc.wf fun hw=>?_;simp only [V.wfs,V.wf] at hw;have hb:=xua hw.2.1;have h1:=Int.emod_nonneg a (show n≠0 by omega);have h2:=Int.emod_lt_of_pos a hn;refine Fnc.intro mz (by simp) fun W S=>?_;simp only [ents,Nat.zero_add,Nat.reduceAdd,Qm,Qc,Ql,QL,Qf,Qs,Qb,Qk,QB,Qn,Qe,Qx,Qt,Qu,Q0,Q1,Qp,Qw,Qq,Qr,Qi];by_cases h:a.tmod n<0
 ·have e:=ydz hn h
  refine zst ?_;exact zrh mz e
 ·have e:=ye0 hn h
  refine zst ?_;exact zrh mz e
theorem ygq (a n:Int) (hn:0<n):Fnc Tryz.prog 48 [.int .i64 a,.int .i64 n] (fun x obs=>x=.int .i64 (a % n)∧obs=[]):=by
 refine zcf Tryz.prog 48 fun mz=>?_;refine Fnc.intro mz (by simp) fun W S=>?_;simp only [ents,Nat.zero_add,Nat.reduceAdd,Qm,Qc,Ql,QL,Qf,Qs,Qb,Qk,QB,Qn,Qe,Qx,Qt,Qu,Q0,Q1,Qp,Qw,Qq,Qr,Qi];refine zst ?_;refine zcd (xta a n hn) ?_;exact zrt mz
theorem yfb {P:Program} {f:FuncId} {T:TypeId} {d:V} {xs:List V} {R0:V→List Ob→V→Prop} (h:d.wf→V.wfs xs→FncM P f T d xs R0):FncM P f T d xs R0:=fun w S b0 hS cs hcs hd vs hvs=>h hd.wf hvs.wfs w S b0 hS cs hcs hd vs hvs
abbrev xcu (l:List Int) (k:Nat):V:=.agg [.sl false 1 (i64s l),.int .i64 k]
def dnx (l:List Int) (k:Nat) (n:Int):Int:=if k<l.length then l[k]! % n else 0
def dkx (l:List Int) (k:Nat):Nat:=if k<l.length then k+1 else k
theorem xa4 {l:List Int} {k:Nat} (h:k≤l.length):dkx l k≤l.length:=by unfold dkx;split<;>omega
theorem xc0 {l:List Int} {k:Nat} {n:Int} (hn:0<n):0≤dnx l k n:=by
 unfold dnx;split
 ·exact Int.emod_nonneg _ (by omega)
 ·omega
theorem xc1 {l:List Int} {k:Nat} {n:Int} (hn:0<n):dnx l k n<n:=by
 unfold dnx;split
 ·exact Int.emod_lt_of_pos _ hn
 ·omega
theorem xav (l:List Int) (k:Nat) (n:Int) (hk:k≤l.length) (hn:0<n):FncM Tryz.prog 19 84 (xcu l k) [.int .i64 n] (fun x obs c=>x=.int .i64 (dnx l k n)∧obs=[]∧c=xcu l (dkx l k)):=by
 refine zcf Tryz.prog 19 fun mz=>?_;refine yfb fun hw hw2=>?_;simp only [V.wfs,V.wf,xdw,List.length_map] at hw;have hl:=hw.1.2;refine FncM.intro mz (by simp) fun W S b0 hb0=>?_;simp only [ents,Nat.zero_add,Nat.reduceAdd,Qm,Qc,Ql,QL,Qf,Qs,Qb,Qk,QB,Qn,Qe,Qx,Qt,Qu,Q0,Q1,Qp,Qw,Qq,Qr,Qi];by_cases h:k<l.length
 ·refine zst ?_
  refine zcd (ygq (l[((k:Int)+1-1).toNat]!) n hn) ?_;refine zrM hb0 mz ?_;exact⟨by simp [dnx,h],rfl,by simp [dkx,h]⟩
 ·refine zst ?_
  refine zrM hb0 mz ?_;exact⟨by simp [dnx,h],rfl,by simp [dkx,h]⟩
theorem yer (l:List Int):Fnc Tryz.prog 6 [.sl false 1 (i64s l)] (fun x obs=>x=.ptr 0 0 [] 0∧obs=[⟨.box false 84,true,0,xcu l 0⟩]):=by
 refine zcf Tryz.prog 6 fun mz=>?_;refine zgo mz fun W S=>?_;apply xwj mz
 ·(simp only [go_sem];rfl)
 ·(first|exact trivial|(simp;done))
 ·rfl
 ·(first|rfl|(simp only [go_sem];done))
 exact⟨rfl,rfl⟩
end Go.Proofs.YtbgpfigkcpmnfaaGreat
namespace Go.Proofs.YtbgpfigkcpmnfaaGreat
open Go Go.RowKit Rdn Rdn.Dp
def dwd (l:List Int) (k:Nat):Int:=
 if dnx l k 5=0∨dnx l k 5=1∨dnx l k 5=2 then dnx l (dkx l k) 8 else if dnx l k 5=3 then 65535-dnx l (dkx l k) 3 else dnx l (dkx l k) 65536
theorem xxm (l:List Int) (k:Nat):0≤dwd l k∧dwd l k≤65535:=by
 have h1:=xc0 (l:=l) (k:=dkx l k) (n:=8) (by omega);have h2:=xc1 (l:=l) (k:=dkx l k) (n:=8) (by omega);have h3:=xc0 (l:=l) (k:=dkx l k) (n:=3) (by omega);have h4:=xc1 (l:=l) (k:=dkx l k) (n:=3) (by omega);have h5:=xc0 (l:=l) (k:=dkx l k) (n:=65536) (by omega);have h6:=xc1 (l:=l) (k:=dkx l k) (n:=65536) (by omega);unfold dwd;split
 ·omega
 ·split<;>omega
theorem xtn (l:List Int) (k:Nat) (hk:k≤l.length):FncM Tryz.prog 64 84 (xcu l k) [] (fun x obs c=>x=.int .u16 (dwd l k)∧obs=[]∧c=xcu l (dkx l (dkx l k))):=by
 refine zcf Tryz.prog 64 fun mz=>?_;have hk1:=xa4 hk;have h1:=xc0 (l:=l) (k:=dkx l k) (n:=8) (by omega);have h2:=xc1 (l:=l) (k:=dkx l k) (n:=8) (by omega);have h3:=xc0 (l:=l) (k:=dkx l k) (n:=3) (by omega);have h4:=xc1 (l:=l) (k:=dkx l k) (n:=3) (by omega);have h5:=xc0 (l:=l) (k:=dkx l k) (n:=65536) (by omega);have h6:=xc1 (l:=l) (k:=dkx l k) (n:=65536) (by omega);refine FncM.intro mz (by simp) fun W S b0 hb0=>?_;simp only [ents,Nat.zero_add,Nat.reduceAdd,Qm,Qc,Ql,QL,Qf,Qs,Qb,Qk,QB,Qn,Qe,Qx,Qt,Qu,Q0,Q1,Qp,Qw,Qq,Qr,Qi];by_cases c0:dnx l k 5=0
 ·refine zst ?_
  refine zcm (xav l k 5 hk (by omega)) ?_;refine zcm (xav l (dkx l k) 8 hk1 (by omega)) ?_;refine zrM hb0 mz ?_;exact⟨by simp [dwd,c0],rfl,rfl⟩
 by_cases c1:dnx l k 5=1
 ·refine zst ?_
  refine zcm (xav l k 5 hk (by omega)) ?_;refine zcm (xav l (dkx l k) 8 hk1 (by omega)) ?_;refine zrM hb0 mz ?_;exact⟨by simp [dwd,c1],rfl,rfl⟩
 by_cases c2:dnx l k 5=2
 ·refine zst ?_
  refine zcm (xav l k 5 hk (by omega)) ?_;refine zcm (xav l (dkx l k) 8 hk1 (by omega)) ?_;refine zrM hb0 mz ?_;exact⟨by simp [dwd,c2],rfl,rfl⟩
 by_cases c3:dnx l k 5=3
 ·refine zst ?_
  refine zcm (xav l k 5 hk (by omega)) ?_;refine zcm (xav l (dkx l k) 3 hk1 (by omega)) ?_;refine zrM hb0 mz ?_;exact⟨by simp [dwd,c3],rfl,rfl⟩
 ·refine zst ?_
  refine zcm (xav l k 5 hk (by omega)) ?_;refine zcm (xav l (dkx l k) 65536 hk1 (by omega)) ?_;refine zrM hb0 mz ?_;exact⟨by simp [dwd,c0,c1,c2,c3],rfl,rfl⟩
end Go.Proofs.YtbgpfigkcpmnfaaGreat
namespace Go.Proofs.YtbgpfigkcpmnfaaGreat
open Go Go.RowKit Rdn Rdn.Dp
def dw1 (l:List Int) (k:Nat):Int×Nat:=(dwd l k,dkx l (dkx l k))
theorem yeg {l:List Int} (k:Nat) (h:k≤l.length):(dw1 l k).2≤l.length:=xa4 (xa4 h)
def dws (l:List Int) (k:Nat) (n:Int):List Int×Nat:=drw (dw1 l) (dkx l k) (dnx l k (n+1)).toNat
theorem xh9 {l:List Int} {k:Nat} (hk:k≤l.length) (n:Int):(dws l k n).2≤l.length:=xxl (f:=dw1 l) yeg (xa4 hk) _
theorem xe5 {l:List Int} {k:Nat} {n:Int} (hn:0≤n):(dws l k n).1.length≤n.toNat:=by
 have h2:=xc1 (l:=l) (k:=k) (n:=n+1) (by omega);rw [dws,xsc];omega
theorem yeh (l:List Int) (k:Nat) (n:Int):∀x∈(dws l k n).1,0≤x∧x≤65535:=xxk (p:=fun x=>0≤x∧x≤65535) (fun k=>xxm l k) _ _
theorem xh7 (l:List Int) (k:Nat) (n:Int) (hk:k≤l.length) (hn:0≤n) (hn':n≤1000000):FncM Tryz.prog 36 84 (xcu l k) [.int .i64 n] (fun x obs c=>x=.sl false 1 (u16s (dws l k n).1)∧obs=[]∧c=xcu l (dws l k n).2):=by
 refine zcf Tryz.prog 36 fun mz=>?_;refine FncM.low ?_;have h1:=xc0 (l:=l) (k:=k) (n:=n+1) (by omega);have h2:=xc1 (l:=l) (k:=k) (n:=n+1) (by omega);refine zgM mz fun W S b0 hb0=>?_;refine zcm (xav l k (n+1) hk (by omega)) ?_;refine xcy (i:=5) (e:=30) (s:=1) rfl (by decide) ?_;refine xay [0] (fun p:{p:Nat // p≤(dnx l k (n+1)).toNat}=>[(5,.own 1 p.1),(6,.int .i64 (dnx l k (n+1)-p.1))]) (fun p=>[⟨.box true 84,true,0,xcu l (drw (dw1 l) (dkx l k) p.1).2⟩,⟨.row 30,true,p.1,.arr 1 (u16s (drw (dw1 l) (dkx l k) p.1).1)⟩]) (fun p=>(dnx l k (n+1)).toNat-p.1) (⟨0,by simp⟩) 2 (by simp only [go_sem];rfl) ?_ (by first|rfl|(simp only [go_sem];done)|(simp only [go_sem];simp [drw];done)) (by simp) (by first|rfl|(simp only [go_sem];done)) (by first|rfl|(simp only [go_sem];done)) (by first|rfl|(simp only [go_sem];done)|(simp only [drw];(try simp only [go_sem]);first|done|rfl)) ?_
 ·(simp only [go_sem];(try simp [drw]);done)
 intro J hJ
 rintro⟨i,hi⟩
 have hp:=xxl (f:=dw1 l) (m:=l.length) yeg (xa4 hk) i;have hlen:=xsc (dw1 l) (dkx l k) i;by_cases hlt:i<(dnx l k (n+1)).toNat
 ·skip
  generalize hq:drw (dw1 l) (dkx l k) i=q at hp hlen;have hd:drw (dw1 l) (dkx l k) (i+1)=(q.1++[dwd l q.2],dkx l (dkx l q.2)):=by rw [drw,hq];rfl
  refine zst ?_;refine zcm (xtn l q.2 hp) ?_;exact zn2 (hJ _ (⟨i+1,hlt⟩) (by first|omega|(dsimp only;omega)|(simp;omega))) hd
 ·obtain rfl:i=(dnx l k (n+1)).toNat:=by omega
  refine zst ?_;refine zrM hb0 mz ?_
  ((try dsimp only);(repeat' (refine And.intro ?_ ?_))<;>first|with_reducible rfl|(simp only [go_sem];done)|(simp only [go_sem];rfl)|(simp only [go_sem,dws];done)|(simp only [dws];(try simp only [go_sem]);first|done|rfl)|(simp only [go_sem];simp [dws];done)|(simp [dws];done)|rfl)
end Go.Proofs.YtbgpfigkcpmnfaaGreat
namespace Go.Proofs.YtbgpfigkcpmnfaaGreat
open Go Go.RowKit Rdn Rdn.Dp
theorem xr0:xcd Tryz.prog 71=some (83,Qr ([Qw 1 (.box 44 (.t 0)),Qc 2 (.bool false)])
 (.seq (Qr ([Qf 7 0 0 1,Ql 8 1 7,Qn 9 8,Qk 10 .gtr 9 4,Qm 11 10,Q0 12 11 (.fieldA 1 1 (.t 1)),Q0 13 11 (.load false 1 (.t 12)),Q0 14 11 (.len (.t 13)),Q0 15 11 (.bin 0 .neq (.t 14) (Qi 8)),Qt 16 11 15])
 (.cond (.t 16) (Qr ([Qc 2 (.bool false)])
 (.ret)) (.skip)))
 (.seq (Qr ([Qf 17 0 0 1,Ql 18 1 17,Qn 19 18,Qp 20 (.mov (Qi 0))])
 (.block 0 (.loop (Qr ([Qb 21 .lss 20 19])
 (.seq (.cond (.t 21) (.skip) (.exit 0))
 (.seq (.block 1 (Qr ([Qx 22 1 18 20,Ql 23 1 22,Qm 4 23])
 (Qr ([Qm 24 4,Qq 25 70 [(.t 24),(Qi 64)],Qp 26 (.un .not (.t 25))])
 (.cond (.t 26) (Qr ([Qc 2 (.bool false)])
 (.ret)) (.skip)))))
 (.reg [Qk 27 .add 20 1,Qm 20 27])))))))
 (.seq (Qr ([Qf 28 1 1 1,Ql 29 1 28,Qn 30 29,Qp 31 (.mov (Qi 0))])
 (.block 2 (.loop (Qr ([Qb 32 .lss 31 30])
 (.seq (.cond (.t 32) (.skip) (.exit 2))
 (.seq (.block 3 (Qr ([Qx 33 3 29 31,QL 34 3 33,Qw 6 (.alloc 193 (.agg [.int .i64 0,.int .i64 0,.bool false])),Qs 3 6 34])
 (.seq (.dreg [Qf 35 0 0 6,Ql 36 1 35,Qk 37 .eql 36 (-1),Qm 38 37,Q1 39 38 (.fieldA 1 1 (.t 6)),Q1 40 38 (.load false 1 (.t 39)),Q1 41 38 (.bin 0 .neq (.t 40) (Qi 0)),Q1 42 38 (.mov (.t 41)),Q0 43 42 (.fieldA 2 2 (.t 6)),Q0 44 42 (.load false 1 (.t 43)),Q1 45 38 (.pick (.t 42) (.c (.bool true)) (.t 44)),Qu 46 38 45,Qm 47 46,Q0 48 47 (.fieldA 0 0 (.t 6)),Q0 49 47 (.load false 1 (.t 48)),Q0 50 47 (.bin 0 .lss (.t 49) (Qi (-1))),Qt 51 47 50,Qm 52 51,Q0 53 52 (.fieldA 0 0 (.t 6)),Q0 54 52 (.load false 1 (.t 53)),Q0 55 52 (.fieldA 0 0 (.t 1)),Q0 56 52 (.load false 1 (.t 55)),Q0 57 52 (.len (.t 56)),Q0 58 52 (.bin 0 .geq (.t 54) (.t 57)),Qt 59 52 58,Qm 60 59,Q0 61 60 (.fieldA 0 0 (.t 6)),Q0 62 60 (.load false 1 (.t 61)),Q0 63 60 (.bin 0 .geq (.t 62) (Qi 0)),Q0 64 60 (.mov (.t 63)),Q1 65 64 (.fieldA 1 1 (.t 6)),Q1 66 64 (.load false 1 (.t 65)),Q1 67 64 (.bin 0 .lss (.t 66) (Qi 0)),Q1 68 64 (.mov (.t 67)),Q0 69 68 (.fieldA 1 1 (.t 6)),Q0 70 68 (.load false 1 (.t 69)),Q0 71 68 (.fieldA 0 0 (.t 1)),Q0 72 68 (.load false 1 (.t 71)),Q0 73 68 (.fieldA 0 0 (.t 6)),Q0 74 68 (.load false 1 (.t 73)),Q0 75 68 (.idxA 1 (.t 72) (.t 74)),Q0 76 68 (.load false 1 (.t 75)),Q0 77 68 (.len (.t 76)),Q0 78 68 (.bin 0 .gtr (.t 70) (.t 77)),Q1 79 64 (.pick (.t 68) (.c (.bool true)) (.t 78)),Q0 80 60 (.pick (.t 64) (.t 79) (.c (.bool false))),Qt 81 60 80] [[],[0],[0,1],[0,1,2],[0,1,2,3],[0,1,2,3,4],[0,1,2,3,4,5],[0,1,2,3,4,5,6],[0,1,2,3,4,5,6,7],[0,1,2,3,4,5,6,7,8],[0,1,2,3,4,5,6,7,8,9],[0,1,2,3,4,5,6,7,8,9,10],[0,1,2,3,4,5,6,7,8,9,10,11],[0,1,2,3,4,5,6,7,8,9,10,11,12],[0,1,2,3,4,5,6,7,8,9,10,11,12,13],[0,1,2,3,4,5,6,7,8,9,10,11,12,13,14],[0,1,2,3,4,5,6,7,8,9,10,11,12,13,14,15],[0,1,2,3,4,5,6,7,8,9,10,11,12,13,14,15,16],[0,1,2,3,4,5,6,7,8,9,10,11,12,13,14,15,16,17],[0,1,2,3,4,5,6,7,8,9,10,11,12,13,14,15,16,17,18],[0,1,2,3,4,5,6,7,8,9,10,11,12,13,14,15,16,17],[0,1,2,3,4,5,6,7,8,9,10,11,12,13,14,15,16,17,20],[0,1,2,3,4,5,6,7,8,9,10,11,12,13,14,15,16,17,20,21],[0,1,2,3,4,5,6,7,8,9,10,11,12,13,14,15,16,17,18,19,20,21,22],[0,1,2,3,4,5,6,7,8,9,10,11,12,13,14,15,16,17,18,19,20,21,22,23],[0,1,2,3,4,5,6,7,8,9,10,11,12,13,14,15,16,17,18,19,20,21,22,23,24],[0,1,2,3,4,5,6,7,8,9,10,11,12,13,14,15,16,17,18,19,20,21,22,23,24,25],[0,1,2,3,4,5,6,7,8,9,10,11,12,13,14,15,16,17,18,19,20,21,22,23,24,25,26],[0,1,2,3,4,5,6,7,8,9,10,11,12,13,14,15,16,17,18,19,20,21,22,23,24,25,26,27],[0,1,2,3,4,5,6,7,8,9,10,11,12,13,14,15,16,17,18,19,20,21,22,23,24,25,26,27,28],[0,1,2,3,4,5,6,7,8,9,10,11,12,13,14,15,16,17,18,19,20,21,22,23,24,25,26,27,28,29],[0,1,2,3,4,5,6,7,8,9,10,11,12,13,14,15,16,17,18,19,20,21,22,23,24,25,26,27,28,29,30],[0,1,2,3,4,5,6,7,8,9,10,11,12,13,14,15,16,17,18,19,20,21,22,23,24,25,26,27,28,29,30,31],[0,1,2,3,4,5,6,7,8,9,10,11,12,13,14,15,16,17,18,19,20,21,22,23,24,25,26,27,28,29,30,31,32],[0,1,2,3,4,5,6,7,8,9,10,11,12,13,14,15,16,17,18,19,20,21,22,23,24,25,26,27,28,29,30,31,32,33],[0,1,2,3,4,5,6,7,8,9,10,11,12,13,14,15,16,17,18,19,20,21,22,23,24,25,26,27,28,29,30,31,32,33,34],[0,1,2,3,4,5,6,7,8,9,10,11,12,13,14,15,16,17,18,19,20,21,22,23,24,25,26,27,28,29,30,31,32,33],[0,1,2,3,4,5,6,7,8,9,10,11,12,13,14,15,16,17,18,19,20,21,22,23,24,25,26,27,28,29,30,31,32,33,36],[0,1,2,3,4,5,6,7,8,9,10,11,12,13,14,15,16,17,18,19,20,21,22,23,24,25,26,27,28,29,30,31,32,33],[0,1,2,3,4,5,6,7,8,9,10,11,12,13,14,15,16,17,18,19,20,21,22,23,24,25,26,27,28,29,30,31,32,33,38],[0,1,2,3,4,5,6,7,8,9,10,11,12,13,14,15,16,17,18,19,20,21,22,23,24,25,26,27,28,29,30,31,32,33,36,37,38,39],[0,1,2,3,4,5,6,7,8,9,10,11,12,13,14,15,16,17,18,19,20,21,22,23,24,25,26,27,28,29,30,31,32,33,36,37,38,39,40],[0,1,2,3,4,5,6,7,8,9,10,11,12,13,14,15,16,17,18,19,20,21,22,23,24,25,26,27,28,29,30,31,32,33,36,37,38,39,40,41],[0,1,2,3,4,5,6,7,8,9,10,11,12,13,14,15,16,17,18,19,20,21,22,23,24,25,26,27,28,29,30,31,32,33,34,35,36,37,38,39,40,41,42],[0,1,2,3,4,5,6,7,8,9,10,11,12,13,14,15,16,17,18,19,20,21,22,23,24,25,26,27,28,29,30,31,32,33,34,35,36,37,38,39,40,41,42,43],[0,1,2,3,4,5,6,7,8,9,10,11,12,13,14,15,16,17,18,19,20,21,22,23,24,25,26,27,28,29,30,31,32,33,34,35,36,37,38,39,40,41,42,43,44],[0,1,2,3,4,5,6,7,8,9,10,11,12,13,14,15,16,17,18,19,20,21,22,23,24,25,26,27,28,29,30,31,32,33,34,35,36,37,38,39,40,41,42,43,44,45]])
 (.cond (.t 81) (Qr ([Qc 2 (.bool false)])
 (.ret)) (.skip)))))
 (.reg [Qk 82 .add 31 1,Qm 31 82])))))))
 (Qr ([Qc 2 (.bool true)])
 (.ret))))),[.mov (.t 2)]):=by kernel_rfl
def numC (l:List Int):List Canon:=l.map fun v=>⟨0,v,0,0⟩
theorem xh2 (l:List Int):(numC l).length=l.length:=by simp [numC]
theorem ygu {l:List Int} {k:Nat} (h:k<l.length):(numC l)[k]! =⟨0,l[k]!,0,0⟩:=by simp [numC,h]
theorem xdo:numC []=[]:=rfl
theorem xmx {l:List Int} {k:Nat} (h:k<l.length):numC (l.take k)++[⟨0,l[k]!,0,0⟩]=numC (l.take (k+1)):=by rw [xbl h];simp [numC]
theorem yfl (v:Int):Fnc Tryz.prog 97 [xaf ⟨0,v,0,0⟩] (fun x obs=>x=.bool true∧obs=[]):=by
 refine zcf Tryz.prog 97 fun mz=>?_;refine zgo mz fun W S=>?_;exact zrt mz
theorem xtz (l:List Int) (n:Int) (hb:l.length≤140737488355328) (hn:(l.length:Int)≤n):Fnc Tryz.prog 70 [.sl false 4 ((numC l).map xaf),.int .i64 n] (fun x obs=>x=.bool true∧obs=[]):=by
 refine zcf Tryz.prog 70 fun mz=>?_;have hl:=xh2 l;refine zgo mz fun W S=>?_;refine zlk [0,1,7,8] (fun p:{p:Nat // p≤l.length}=>[(9,.int .i64 p.1)]) (fun _=>[]) (fun p=>l.length-p.1) (⟨0,by simp⟩) 0 ?_;intro J hJ
 rintro⟨k,hk0⟩
 by_cases hlt:k<l.length
 ·have ha:=ygu hlt
  refine zsx ha ?_;refine zcd (yfl l[k]!) ?_;exact zn0 (hJ _ (⟨k+1,hlt⟩) (by first|omega|(dsimp only;omega)|(simp;omega))) hlt
 ·obtain rfl:k=l.length:=by omega
  refine zst ?_;exact zrt mz
abbrev xf5:V:=.agg [.int .i64 (-1),.int .i64 0,.bool false]
abbrev csV (w:List Int):V:=.sl false 4 ((numC w).map xaf)
abbrev fsV (w0 w1:List Int):V:=.agg [.sl false 1 [csV w0,csV w1],.sl false 3 [xf5,xf5,xf5,xf5,xf5,xf5,xf5,xf5]]
attribute [local irreducible] numC
theorem xyb (w0 w1:List Int) (h0:w0.length≤64) (h1:w1.length≤64):Fnc Tryz.prog 71 [fsV w0 w1] (fun x obs=>x=.bool true∧obs=[]):=by
 refine zgo xr0 fun W S=>?_;refine xad 3 ?_;refine zst ?_;refine zcd (xtz w0 64 (by omega) (by omega)) ?_;refine zcd (xtz w1 64 (by omega) (by omega)) ?_;refine xad 9 ?_;refine zst ?_;exact zrt xr0
abbrev wsV (w:List Int):V:=.sl false 1 (u16s w)
theorem xx7 (w0 w1:List Int) (h0:w0.length≤64) (h1:w1.length≤64):Fnc Tryz.prog 74 [.sl false 1 [wsV w0,wsV w1]] (fun x obs=>x=.sl false 1 [wsV w0,wsV w1]∧obs=[]):=by
 refine zcf Tryz.prog 74 fun mz=>?_;refine Fnc.low ?_;refine zgo mz fun W S=>?_;refine xad 3 ?_;refine zst ?_;refine ret mz [] ?_;(first|(simp only [go_sem];done)|(simp only [go_sem];((try dsimp only);(repeat' (refine And.intro ?_ ?_))<;>first|with_reducible rfl|(simp only [go_sem];done)|(simp only [go_sem];rfl)|(simp only [go_sem,wsV];done)|(simp only [wsV];(try simp only [go_sem]);first|done|rfl)|(simp only [go_sem];simp [wsV];done)|(simp [wsV];done)|rfl)))
end Go.Proofs.YtbgpfigkcpmnfaaGreat
namespace Go.Proofs.YtbgpfigkcpmnfaaGreat
open Go Go.RowKit Rdn Rdn.Dp
theorem yd1:Fnc Tryz.prog 72 [.sl false 3 []] (fun x obs=>x=.bool true∧obs=[]):=by
 refine zcf Tryz.prog 72 fun mz=>?_;refine zgo mz fun W S=>?_;refine xad 1 ?_;refine zst ?_;exact zrt mz
end Go.Proofs.YtbgpfigkcpmnfaaGreat
namespace Go.Proofs.YtbgpfigkcpmnfaaGreat
open Go Go.RowKit Rdn Rdn.Dp
theorem yga (w0 w1:List Int) (h0:w0.length≤64) (h1:w1.length≤64):Fnc Tryz.prog 78 [.sl false 1 [wsV w0,wsV w1]] (fun x obs=>x=.tup [fsV w0 w1,.int .i64 0]∧obs=[]):=by
 refine zcf Tryz.prog 78 fun mz=>?_;refine Fnc.low ?_;refine zgo mz fun W S=>?_;refine xad 9 ?_;refine zst ?_;refine xad 3 ?_;refine zst ?_;refine xcy (i:=8) (e:=98) (s:=4) rfl (by decide) ?_;refine xay [2,4,25,26,27,31,32] (fun p:{p:Nat // p≤w0.length}=>[(8,.own 3 p.1),(33,.int .i64 p.1)]) (fun p=>[⟨.box false 44,true,0,.agg [.nilS,.nilS]⟩,⟨.row 193,true,0,.arr 3 [xf5,xf5,xf5,xf5,xf5,xf5,xf5,xf5]⟩,⟨.box false 44,true,0,.agg [.nilS,.own 1 0]⟩,⟨.row 98,true,p.1,.arr 4 ((numC (w0.take p.1)).map xaf)⟩]) (fun p=>w0.length-p.1) (⟨0,by simp⟩) 4 (by simp only [go_sem];rfl) ?_ (by first|rfl|(simp only [go_sem];done)|(simp only [go_sem];simp [xdo];done)) (by simp) (by first|rfl|(simp only [go_sem];done)) (by first|rfl|(simp only [go_sem];done)) (by first|rfl|(simp only [go_sem];done)|(simp only [xdo];(try simp only [go_sem]);first|done|rfl)) ?_
 ·(simp only [go_sem];(try simp [xdo]);done)
 intro J hJ
 rintro⟨k,hk0⟩
 by_cases hlt:k<w0.length
 ·have hl:=xh2 (w0.take k)
  have hl2:(w0.take k).length=k:=by rw [List.length_take];omega
  have hs:=xmx hlt;refine zst ?_;exact zn4 (hJ _ (⟨k+1,hlt⟩) (by first|omega|(dsimp only;omega)|(simp;omega))) hs
 obtain rfl:k=w0.length:=by omega
 refine zst ?_;refine xcy (i:=8) (e:=98) (s:=4) rfl (by decide) ?_;refine xay [2,4,25,26,27,31,32] (fun p:{p:Nat // p≤w1.length}=>[(8,.own 6 p.1),(33,.int .i64 p.1)]) (fun p=>[⟨.box false 44,true,0,.agg [.nilS,.nilS]⟩,⟨.row 193,true,0,.arr 3 [xf5,xf5,xf5,xf5,xf5,xf5,xf5,xf5]⟩,⟨.box false 44,true,0,.agg [.own 5 0,.own 1 0]⟩,⟨.row 98,false,w0.length,.arr 4 ((numC w0).map xaf)⟩,⟨.row 65,true,0,.arr 1 [.sl true 4 ((numC w0).map xaf)]⟩,⟨.row 65,true,0,.arr 1 [.sl true 4 ((numC w0).map xaf)]⟩,⟨.row 98,true,p.1,.arr 4 ((numC (w1.take p.1)).map xaf)⟩]) (fun p=>w1.length-p.1) (⟨0,by simp⟩) 7 (by simp only [go_sem];rfl) ?_ (by first|rfl|(simp only [go_sem];done)|(simp only [go_sem];simp [xdo];done)) (by simp) (by first|rfl|(simp only [go_sem];done)) (by first|rfl|(simp only [go_sem];done)) (by first|rfl|(simp only [go_sem];done)|(simp only [xdo];(try simp only [go_sem]);first|done|rfl)) ?_
 ·(simp only [go_sem];(try simp [xdo]);done)
 intro J hJ
 rintro⟨k,hk0⟩
 by_cases hlt:k<w1.length
 ·have hl:=xh2 (w1.take k)
  have hl2:(w1.take k).length=k:=by rw [List.length_take];omega
  have hs:=xmx hlt;refine zst ?_;exact zn7 (hJ _ (⟨k+1,hlt⟩) (by first|omega|(dsimp only;omega)|(simp;omega))) hs
 obtain rfl:k=w1.length:=by omega
 refine zst ?_;refine zcd (xyb w0 w1 h0 h1) ?_;exact zrt mz
theorem yh9 (c r i0 i1 w0 w1:List Int) (hc:c.length≤64) (hr:r.length≤64) (hi0:i0.length≤64) (hi1:i1.length≤64) (h0:w0.length≤64) (h1:w1.length≤64):Fnc Tryz.prog 42 [.agg [wsV c,wsV r,.sl false 1 [wsV i0,wsV i1],fsV w0 w1,.nilS]] (fun x obs=>x=.bool true∧obs=[]):=by
 refine zcf Tryz.prog 42 fun mz=>?_;have fo:=yd1;refine zgo mz fun W S=>?_;refine xad 3 ?_;refine zst ?_;refine xad 1 ?_;refine zst ?_;refine zcd (xyb w0 w1 h0 h1) ?_;refine zcd (fo) ?_;exact zrt mz
end Go.Proofs.YtbgpfigkcpmnfaaGreat
namespace Go.Proofs.YtbgpfigkcpmnfaaGreat
open Go Go.RowKit Rdn Rdn.Dp
theorem ygy (c r i0 i1 w0 w1:List Int) (hc:c.length≤64) (hr:r.length≤64) (hi0:i0.length≤64) (hi1:i1.length≤64) (h0:w0.length≤64) (h1:w1.length≤64):Fnc Tryz.prog 47 [.sl false 1 [wsV w0,wsV w1],.sl false 1 [wsV i0,wsV i1],wsV c,wsV r] (fun x obs=>x=.tup [.agg [wsV c,wsV r,.sl false 1 [wsV i0,wsV i1],fsV w0 w1,.nilS],.int .i64 0]∧obs=[]):=by
 refine zcf Tryz.prog 47 fun mz=>?_;refine Fnc.low ?_;refine zgo mz fun W S=>?_;refine zcd (yga w0 w1 h0 h1) ?_;refine zcd (xx7 i0 i1 hi0 hi1) ?_;refine zcd (yh9 c r i0 i1 w0 w1 hc hr hi0 hi1 h0 h1) ?_;exact zrt mz
theorem yh8 (l:List Int) (k:Nat) (hk:k≤l.length):FncM Tryz.prog 18 84 (xcu l k) [] (fun x obs d=>x=.agg [wsV (dws l (dws l (dws l (dws l (dws l k 5).2 3).2 8).2 4).2 5).1,wsV (dws l (dws l (dws l (dws l (dws l (dws l k 5).2 3).2 8).2 4).2 5).2 5).1,.sl false 1 [wsV (dws l (dws l (dws l k 5).2 3).2 8).1,wsV (dws l (dws l (dws l (dws l k 5).2 3).2 8).2 4).1],fsV (dws l k 5).1 (dws l (dws l k 5).2 3).1,.nilS]∧obs=[]∧d=xcu l (dws l (dws l (dws l (dws l (dws l (dws l k 5).2 3).2 8).2 4).2 5).2 5).2):=by
 refine zcf Tryz.prog 18 fun mz=>?_;refine FncM.low ?_;have k1:=xh9 hk 5;have n1:=xe5 (l:=l) (k:=k) (n:=5) (by omega);have f1:=xh7 l k 5 hk (by omega) (by omega);generalize dws l k 5=q1 at k1 n1 f1;have k2:=xh9 k1 3;have n2:=xe5 (l:=l) (k:=q1.2) (n:=3) (by omega);have f2:=xh7 l q1.2 3 k1 (by omega) (by omega);generalize dws l q1.2 3=q2 at k2 n2 f2;have k3:=xh9 k2 8;have n3:=xe5 (l:=l) (k:=q2.2) (n:=8) (by omega);have f3:=xh7 l q2.2 8 k2 (by omega) (by omega);generalize dws l q2.2 8=q3 at k3 n3 f3;have k4:=xh9 k3 4;have n4:=xe5 (l:=l) (k:=q3.2) (n:=4) (by omega);have f4:=xh7 l q3.2 4 k3 (by omega) (by omega);generalize dws l q3.2 4=q4 at k4 n4 f4;have k5:=xh9 k4 5;have n5:=xe5 (l:=l) (k:=q4.2) (n:=5) (by omega);have f5:=xh7 l q4.2 5 k4 (by omega) (by omega);generalize dws l q4.2 5=q5 at k5 n5 f5;have n6:=xe5 (l:=l) (k:=q5.2) (n:=5) (by omega);have f6:=xh7 l q5.2 5 k5 (by omega) (by omega);generalize dws l q5.2 5=q6 at n6 f6;refine zgM mz fun W S b0 hb0=>?_;refine zcm (f1) ?_;refine zcm (f2) ?_;refine zcm (f3) ?_;refine zcm (f4) ?_;refine zcm (f5) ?_;refine zcm (f6) ?_;refine xqf ?_;refine zev ?_;refine zcd (ygy q5.1 q6.1 q3.1 q4.1 q1.1 q2.1 (by omega) (by omega) (by omega) (by omega) (by omega) (by omega)) ?_;exact zrm hb0 mz
end Go.Proofs.YtbgpfigkcpmnfaaGreat
namespace Go.Proofs.YtbgpfigkcpmnfaaGreat
open Go Go.RowKit Rdn Rdn.Dp
theorem yjt (l:List Int):Fnc Tryz.prog 4 [.sl false 1 (i64s l)] (fun x obs=>x=.bool (decide (l.length≤400))∧obs=[]):=by
 refine zcf Tryz.prog 4 fun mz=>?_;by_cases h:l.length≤400
 ·skip
  refine zgo mz fun W S=>?_;exact zrt mz
 ·skip
  refine zgo mz fun W S=>?_;exact zrt mz
structure PInstr where
 op:Int
 a:Int
 b:Int
 c:Int
 imm:Int
 deriving DecidableEq,Inhabited
structure PLay where
 bases:List Int
 key:Int
structure PLine where
 tag:Int
 dirty:Bool
 cells:List Cell
 deriving Inhabited
structure PMem where
 cells:List Cell
 lines:List PLine
structure PThr where
 state:Int
 regs:List Cell
 pc:Int
 count:Int
 handler:Int
 saved:Int
 trap:Int
 code:Int
 deriving Inhabited
structure PMach where
 lay:PLay
 mem:PMem
 thr:List PThr
structure PProg where
 code:List PInstr
 sizes:List Int
 data:List (List Int)
structure PEntry where
 kind:Int
 thread:Int
 n:Int
 req:Rdn.Request
 res:Rdn.Result
structure PChoice where
 thread:Int
 branches:Int
 signal:Bool
structure PLocks where
 owner:List Int
 queue:List (List Int)
abbrev xcj (i:PInstr):V:=.agg [.int .i64 i.op,.int .i64 i.a,.int .i64 i.b,.int .i64 i.c,.int .i64 i.imm]
abbrev layV (t:Bool) (l:PLay):V:=.agg [.sl t 1 (i64s l.bases),.int .u16 l.key]
abbrev xf3 (t:Bool) (x:PLine):V:=.agg [.int .i64 x.tag,.bool x.dirty,.sl t 2 (x.cells.map xau)]
abbrev memV (t:Bool) (m:PMem):V:=.agg [.sl t 2 (m.cells.map xau),.sl t 3 (m.lines.map (xf3 t))]
abbrev thrV (t:Bool) (x:PThr):V:=.agg [.int .i64 x.state,.sl t 2 (x.regs.map xau),.int .i64 x.pc,.int .i64 x.count,.int .i64 x.handler,.int .i64 x.saved,.int .i64 x.trap,.int .u16 x.code]
abbrev xd8 (t:Bool) (m:PMach):V:=.agg [layV t m.lay,memV t m.mem,.sl t 8 (m.thr.map (thrV t))]
abbrev xbn (t:Bool) (p:PProg):V:=.agg [.sl t 5 (p.code.map xcj),.sl t 1 (i64s p.sizes),.sl t 1 (p.data.map (slV' t 1 (V.int .u16)))]
abbrev xoe (c:PChoice):V:=.agg [.int .i64 c.thread,.int .i64 c.branches,.bool c.signal]
abbrev xcf (t:Bool) (l:PLocks):V:=.agg [.sl t 1 (i64s l.owner),.sl t 1 (l.queue.map (slV' t 1 (V.int .i64)))]
instance :Lo xcj xcj:=⟨fun _=>rfl,fun _=>rfl⟩
instance :Lo xoe xoe:=⟨fun _=>rfl,fun _=>rfl⟩
instance (t:Bool):Lo (xf3 t) (xf3 false):=⟨fun _=>rfl,fun o=>by simp only [xf3,V.low,V.lows,xd4]⟩
instance (t:Bool):Lo (thrV t) (thrV false):=⟨fun _=>rfl,fun o=>by simp only [thrV,V.low,V.lows,xd4]⟩
def okSz (s:List Int):Prop:=(∀n∈s,1≤n∧n≤32)∧1≤s.length∧s.length≤4
def insS (s:List Int) (r o:Int):Prop:=0≤r∧r<s.length∧0≤o∧o<s[r.toNat]!
instance (s:List Int) (r o:Int):Decidable (insS s r o):=by unfold insS;exact inferInstance
def resS:List Int→List Int→Int→Int→Option (Int×Int)
 |b::bs,n::ss,r,a=>if b≤a∧a<b+n then some (r,a-b) else resS bs ss (r+1) a
 |_,_,_,_=>none
def xeh (l:PLay) (s:List Int):Prop:=okSz s∧l.bases.length=s.length∧∀i:Nat,i<s.length→0≤l.bases[i]!∧l.bases[i]!+s[i]!≤512∧∀j:Nat,j<i→l.bases[i]!+s[i]!<l.bases[j]!∨l.bases[j]!+s[j]!<l.bases[i]!
def canS (l:PLay) (s:List Int) (c:Cell):Canon:=
 if c.tag=0 then⟨0,c.val,0,0⟩
 else if c.tag=2 then⟨2,IntKind.u16.wrap (c.val-l.key),0,0⟩
 else match resS l.bases s 0 c.val with
  |some (r,o)=>⟨1,0,r,o⟩
  |none=>⟨1,0,-1,c.val⟩
def xgi (s:List Int) (x:Canon):Prop:=if x.tag=0∨x.tag=2 then x.region=0∧x.offset=0 else x.tag=1∧x.val=0∧insS s x.region x.offset
instance (s:List Int) (x:Canon):Decidable (xgi s x):=by unfold xgi;exact inferInstance
def rawS (l:PLay) (s:List Int) (x:Canon):Cell×Int:=
 if ¬xgi s x then(⟨0,0⟩,1)
 else if x.tag=0 then(⟨0,x.val⟩,0)
 else if x.tag=2 then(⟨2,IntKind.u16.wrap (x.val+l.key)⟩,0)
 else(⟨1,IntKind.u16.wrap (l.bases[x.region.toNat]!+x.offset)⟩,0)
def xbh (c:Cell):Prop:=0≤c.tag∧c.tag≤2∧0≤c.val∧c.val≤65535
def xd5 (l:List Cell):Prop:=∀c∈l,xbh c
def xdj (i:Nat) (x:PLine):Prop:=if x.tag=-1 then x.dirty=false∧x.cells=[] else 0≤x.tag∧x.tag<128∧x.tag % 4=i∧x.cells.length=4∧xd5 x.cells
def xfi (m:PMem):Prop:=m.cells.length=512∧m.lines.length=4∧xd5 m.cells∧∀i:Nat,i<4→xdj i m.lines[i]!
def setRow (l:List Cell) (k:Nat) (x:List Cell):List Cell:=l.take k++x++l.drop (k+x.length)
def xbi (m:PMem) (addr:Int):PMem:=
 let n:=addr / 4
 let i:=(n % 4).toNat
 let x:=m.lines[i]!
 if x.tag=n then m
 else
  let c:=if x.dirty then setRow m.cells (x.tag*4).toNat x.cells else m.cells
  ⟨c,m.lines.set i ⟨n,false,(c.drop (n*4).toNat).take 4⟩⟩
def xhs (m:PMem) (addr:Int):PMem×Cell:=(xbi m addr,(xbi m addr).lines[(addr / 4 % 4).toNat]!.cells[(addr % 4).toNat]!)
def xf1 (m:PMem) (addr:Int) (c:Cell):PMem:=
 let f:=xbi m addr
 let i:=(addr / 4 % 4).toNat
 let x:=f.lines[i]!
 ⟨f.cells,f.lines.set i ⟨x.tag,true,x.cells.set (addr % 4).toNat c⟩⟩
def xrh (m:PMem) (addr:Int):Cell:=
 let x:=m.lines[(addr / 4 % 4).toNat]!
 if x.tag=addr / 4 then x.cells[(addr % 4).toNat]! else m.cells[addr.toNat]!
def xd7 (op:Int):List Bool:=
 if op=1∨op=15∨op=19∨op=20∨op=21 then [true,false,false,true]
 else if op=2 then [true,true,false,false]
 else if op=16∨op=17 then [true,true,false,true]
 else if op=18∨op=23 then [false,false,false,true]
 else if op=22 then [true,false,false,false]
 else if op=0∨op=24 then [false,false,false,false]
 else [true,true,true,false]
def xbm (op:Int):Prop:=op=18∨op=19∨op=20∨op=21
def xab (op:Int):Prop:=xbm op∨op=22∨op=24
instance (op:Int):Decidable (xbm op):=by unfold xbm;exact inferInstance
instance (op:Int):Decidable (xab op):=by unfold xab;exact inferInstance
def c0:Cell:=⟨0,0⟩
def offS (back:Bool) (o n:Int):Int:=if back then o-n else o+n
def xc4 (l:PLay) (s:List Int) (p:Cell) (n:Int) (back:Bool):Cell×Int:=
 if p.tag≠1 then(c0,3)
 else match resS l.bases s 0 p.val with
  |none=>(c0,4)
  |some (r,o)=>if insS s r (offS back o n) then(⟨1,IntKind.u16.wrap (l.bases[r.toNat]!+(offS back o n))⟩,0) else(c0,4)
def xik (b:Bool):Cell:=if b then⟨0,1⟩ else c0
def thr0:PThr:=⟨0,List.replicate 8 c0,0,0,-1,-1,0,0⟩
def thrN (pc:Int) (arg:Cell):PThr:=⟨1,arg::List.replicate 7 c0,pc,0,-1,-1,0,0⟩
def endS (t:PThr) (trap code:Int):PThr:={t with state:=4,trap:=trap,code:=code}
def okThr (C:Int) (t:PThr):Prop:=xd5 t.regs∧0≤t.state∧t.state≤4∧t.regs.length=8∧0≤t.pc∧t.pc≤255∧0≤t.count∧t.count≤C∧-1≤t.handler∧t.handler≤255∧-1≤t.saved∧t.saved≤255∧0≤t.trap∧t.trap≤6
def xp3 (i:PInstr):Prop:=0≤i.op∧i.op≤24∧(0≤i.a∧i.a<8∧((xd7 i.op)[0]! =false→i.a=0))∧(0≤i.b∧i.b<8∧((xd7 i.op)[1]! =false→i.b=0))∧(0≤i.c∧i.c<8∧((xd7 i.op)[2]! =false→i.c=0))∧(0≤i.imm∧i.imm≤65535∧((xd7 i.op)[3]! =false→i.imm=0))∧(xbm i.op→i.imm<64)∧(i.op=15→i.imm<4)∧(i.op=23→i.imm≤15)
structure okProg (p:PProg):Prop where
 sz:okSz p.sizes
 dl:p.data.length=p.sizes.length
 dat:∀i:Nat,i<p.sizes.length→(p.data[i]!.length:Int)≤p.sizes[i]!
 c1:1≤p.code.length
 c2:p.code.length≤64
 ins:∀i∈p.code,xp3 i∧(xbm i.op→i.imm<p.code.length)∧(i.op=15→i.imm<p.sizes.length)
structure okMach (p:PProg) (C:Int) (m:PMach):Prop where
 prog:okProg p
 lay:xeh m.lay p.sizes
 mem:xfi m.mem
 n:m.thr.length=4
 thr:∀t∈m.thr,okThr C t
def numS (op b c:Int):Cell×Int:=
 if op=3 then(⟨0,IntKind.u16.wrap (b+c)⟩,0)
 else if op=4 then(⟨0,IntKind.u16.wrap (b-c)⟩,0)
 else if op=5 then(⟨0,IntKind.u16.wrap (b*c)⟩,0)
 else if op=6∨op=7 then(if c=0 then(c0,5) else if op=6 then(⟨0,IntKind.u16.wrap (b.tdiv c)⟩,0) else(⟨0,b.tmod c⟩,0))
 else if op=8 then(⟨0,band .u16 b c⟩,0)
 else if op=9 then(⟨0,bor .u16 b c⟩,0)
 else if op=10 then(⟨0,bxor .u16 b c⟩,0)
 else if op=11 then(⟨0,IntKind.u16.wrap (b*2 ^ min (c.tmod 16).toNat 16)⟩,0)
 else if op=12 then(⟨0,b.fdiv (2 ^ min (c.tmod 16).toNat 16)⟩,0)
 else(xik (decide (b<c)),0)
def aluS (l:PLay) (s:List Int) (op:Int) (b c:Cell):Cell×Int:=
 if op<3∨14<op then(c0,1)
 else if op=14 then(xik (decide (b=c)),0)
 else if b.tag=0∧c.tag=0 then numS op b.val c.val
 else if op=3∧b.tag=1∧c.tag=0 then xc4 l s b c.val false
 else if op=3∧b.tag=0∧c.tag=1 then xc4 l s c b.val false
 else if op=4∧b.tag=1∧c.tag=0 then xc4 l s b c.val true
 else if(op=4∨op=13)∧b.tag=1∧c.tag=1 then
  match resS l.bases s 0 b.val,resS l.bases s 0 c.val with
  |some (r,o),some (r2,o2)=>if r=r2 then(if op=13 then(xik (decide (o<o2)),0) else(⟨0,IntKind.u16.wrap (o-o2)⟩,0)) else(c0,4)
  |_,_=>(c0,4)
 else(c0,3)
def xdx (l:PLay) (s:List Int) (p:Cell) (n:Int):Int×Int:=
 if p.tag≠1 then(0,3)
 else match resS l.bases s 0 p.val with
  |none=>(0,4)
  |some (r,o)=>if n<0∨n>s[r.toNat]!-o then(0,4) else(p.val,0)
def xfm (x:PThr) (why:Int):PThr:={x with state:=4,trap:=why,code:=0}
def PMach.setT (m:PMach) (t:Nat) (x:PThr):PMach:={m with thr:=m.thr.set t x}
def setR (x:PThr) (r:Int) (c:Cell):PThr:={x with regs:=x.regs.set r.toNat c}
def xcs (i:PInstr) (x:PThr) (next:Int):PThr:={x with pc:=next,count:=if xab i.op then x.count+1 else x.count}
def sOne (p:PProg) (m:PMach) (t:Nat):PMach×Int:=
 let x:=m.thr[t]!
 if x.pc≥p.code.length then(m.setT t (xfm x 2),2)
 else
  let i:=p.code[x.pc.toNat]!
  let next:=x.pc+1
  let a:=x.regs[i.a.toNat]!
  let b:=x.regs[i.b.toNat]!
  if i.op=0 then(m.setT t (xcs i x next),-1)
  else if i.op=1 then(m.setT t (xcs i (setR x i.a ⟨0,IntKind.u16.wrap i.imm⟩) next),-1)
  else if i.op=2 then(m.setT t (xcs i (setR x i.a b) next),-1)
  else if i.op=15 then(m.setT t (xcs i (setR x i.a ⟨1,IntKind.u16.wrap m.lay.bases[i.imm.toNat]!⟩) next),-1)
  else if i.op=16∨i.op=17 then
   let c:=xc4 m.lay p.sizes (if i.op=17 then a else b) (IntKind.u16.wrap i.imm) false
   if c.2≠0 then(m.setT t (xfm x c.2),2)
   else if i.op=16 then({m with mem:=(xhs m.mem c.1.val).1,thr:=m.thr.set t (xcs i (setR x i.a (xhs m.mem c.1.val).2) next)},-1)
   else({m with mem:=xf1 m.mem c.1.val b,thr:=m.thr.set t (xcs i x next)},-1)
  else if i.op=18 then(m.setT t (xcs i x i.imm),-1)
  else if i.op=19∨i.op=20 then
   if a.tag≠0 then(m.setT t (xfm x 3),2)
   else(m.setT t (xcs i x (if(a.val=0)=(i.op=19) then i.imm else next)),-1)
  else if i.op=21 then(m.setT t (xcs i (setR x i.a ⟨0,IntKind.u16.wrap next⟩) i.imm),-1)
  else if i.op=22 then
   if a.tag≠0 then(m.setT t (xfm x 3),2)
   else if a.val>255 then(m.setT t (xfm x 2),2)
   else(m.setT t (xcs i x a.val),-1)
  else if i.op=24 then
   if x.saved=-1 then(m.setT t (xfm x 1),2)
   else(m.setT t (xcs i {x with saved:=-1} x.saved),-1)
  else if i.op=23 then(m.setT t {x with state:=2,pc:=next},1)
  else
   let c:=aluS m.lay p.sizes i.op b x.regs[i.c.toNat]!
   if c.2≠0 then(m.setT t (xfm x c.2),2)
   else(m.setT t (xcs i (setR x i.a c.1) next),-1)
def xbk (p:PProg) (t:Nat) (til:Int):Nat→PMach→PMach×Int
 |0,m=>(m,0)
 |k+1,m=>
  let r:=sOne p m t
  if r.2≠-1 then r
  else if r.1.thr[t]!.count=til then(r.1,0)
  else xbk p t til k r.1
theorem xb3 {l:List Cell} (h:xd5 l) {k:Nat} (hk:k<l.length):xbh l[k]!:=by
 rw [List.getElem!_eq_getElem?_getD,List.getElem?_eq_getElem hk];exact h _ (List.getElem_mem hk)
theorem xt2 {l:List Cell} (h:xd5 l) (k:Nat) {c:Cell} (hc:xbh c):xd5 (l.set k c):=fun x hx=>by
 rcases List.mem_or_eq_of_mem_set hx with h1|rfl
 ·exact h x h1
 ·exact hc
theorem xw5 {l x:List Cell} (h:xd5 l) (hx:xd5 x) (k:Nat):xd5 (setRow l k x):=fun c hc=>by
 unfold setRow at hc;rcases List.mem_append.1 hc with h1|h1
 ·rcases List.mem_append.1 h1 with h2|h2
  ·exact h c (List.mem_of_mem_take h2)
  ·exact hx c h2
 ·exact h c (List.mem_of_mem_drop h1)
theorem xgo {l x:List Cell} {k:Nat} (h:k+x.length≤l.length):(setRow l k x).length=l.length:=by
 simp only [setRow,List.length_append,List.length_take,List.length_drop];omega
theorem xqz {m:PMem} (i:Nat) (x:PLine) (hl:m.lines.length=4) (h:∀j:Nat,j<4→j≠i→xdj j m.lines[j]!) (hx:xdj i x):∀j:Nat,j<4→xdj j (m.lines.set i x)[j]!:=fun j hj=>by
 by_cases e:j=i
 ·subst e
  rw [List.getElem!_eq_getElem?_getD,List.getElem?_set_self (by omega)];exact hx
 ·rw [List.getElem!_eq_getElem?_getD,List.getElem?_set_ne (fun h=>e h.symm),←List.getElem!_eq_getElem?_getD]
  exact h j hj e
section
variable {m:PMem} {addr:Int} (ok:xfi m) (h0:0≤addr) (h1:addr<512)
include ok h0 h1
theorem xl7:xfi (xbi m addr)∧(xbi m addr).lines[(addr / 4 % 4).toNat]!.tag=addr / 4:=by
 obtain⟨c1,c2,c3,c4⟩:=ok;have hi:(addr / 4 % 4).toNat<4:=by omega
 have hx:=c4 _ hi;unfold xbi;dsimp only;split
 ·exact⟨⟨c1,c2,c3,c4⟩,by assumption⟩
 ·rename_i hne
  obtain⟨c,hc⟩:∃c,(if m.lines[(addr / 4 % 4).toNat]!.dirty then setRow m.cells (m.lines[(addr / 4 % 4).toNat]!.tag*4).toNat m.lines[(addr / 4 % 4).toNat]!.cells else m.cells)=c:=⟨_,rfl⟩;have k:c.length=512∧xd5 c:=by
   rw [←hc];split
   ·rename_i hd
    unfold xdj at hx;split at hx
    ·rw [hx.1] at hd;cases hd
    ·obtain⟨x1,x2,x3,x4,x5⟩:=hx
     exact⟨by rw [xgo (by rw [x4,c1];omega)];exact c1,xw5 c3 x5 _⟩
   ·exact⟨c1,c3⟩
  rw [hc];refine⟨⟨k.1,by simp [c2],k.2,xqz _ _ c2 (fun j hj _=>c4 j hj) ?_⟩,?_⟩
  ·unfold xdj
   rw [if_neg (by show ¬addr / 4=-1;omega)];refine⟨by show 0≤addr / 4;omega,by show addr / 4<128;omega,by show addr / 4 % 4=_;omega,?_,fun x hx=>k.2 x (List.mem_of_mem_drop (List.mem_of_mem_take hx))⟩;simp only [List.length_take,List.length_drop,k.1];omega
  ·rw [List.getElem!_eq_getElem?_getD,List.getElem?_set_self (by omega)]
   rfl
theorem xi4:(xbi m addr).lines[(addr / 4 % 4).toNat]!.cells.length=4∧xd5 (xbi m addr).lines[(addr / 4 % 4).toNat]!.cells:=by
 obtain⟨⟨_,_,_,c4⟩,e⟩:=xl7 ok h0 h1;have hx:=c4 (addr / 4 % 4).toNat (by omega);unfold xdj at hx;rw [if_neg (by rw [e];omega)] at hx;exact⟨hx.2.2.2.1,hx.2.2.2.2⟩
theorem xyv:xfi (xhs m addr).1∧xbh (xhs m addr).2:=by
 obtain⟨l1,l2⟩:=xi4 ok h0 h1;exact⟨(xl7 ok h0 h1).1,xb3 l2 (by rw [l1];omega)⟩
theorem xif {c:Cell} (hc:xbh c):xfi (xf1 m addr c):=by
 obtain⟨⟨c1,c2,c3,c4⟩,e⟩:=xl7 ok h0 h1;obtain⟨l1,l2⟩:=xi4 ok h0 h1;have hx:=c4 (addr / 4 % 4).toNat (by omega);unfold xdj at hx;rw [if_neg (by rw [e];omega)] at hx;unfold xf1;refine⟨c1,by simp [c2],c3,xqz _ _ c2 (fun j hj _=>c4 j hj) ?_⟩;unfold xdj;rw [if_neg (by show ¬(xbi m addr).lines[(addr / 4 % 4).toNat]!.tag=-1;rw [e];omega)];exact⟨hx.1,hx.2.1,hx.2.2.1,by show(List.set _ _ _).length=4;rw [List.length_set];exact l1,xt2 l2 _ hc⟩
end
end Go.Proofs.YtbgpfigkcpmnfaaGreat
namespace Go.Proofs.YtbgpfigkcpmnfaaGreat
open Go Go.RowKit Rdn Rdn.Dp
theorem xh1 {l:PLay} {s:List Int} (hl:xeh l s) {p:Cell} {n:Int} {back:Bool} (h:(xc4 l s p n back).2=0):(xc4 l s p n back).1.tag=1∧0≤(xc4 l s p n back).1.val∧(xc4 l s p n back).1.val<512:=by
 unfold xc4 at h⊢;split at h
 ·cases h
 ·rename_i h1
  rw [if_neg h1];split at h
  ·cases h
  ·rename_i r o h2
   split at h
   ·rename_i h3
    rw [if_pos h3];obtain⟨a1,a2,a3,a4⟩:=h3;obtain⟨b1,b2,b3⟩:=hl;have b4:=b3 r.toNat (by omega);have e:l.bases[r.toNat]!+offS back o n<512:=by omega
    dsimp only;rw [xbs];exact⟨rfl,by omega,by omega⟩
   ·cases h
theorem okU (k:Int) (hk:0≤k∧k≤2) (v:Int):xbh ⟨k,IntKind.u16.wrap v⟩:=⟨hk.1,hk.2,by show 0≤IntKind.u16.wrap v;rw [xbs];omega,by show IntKind.u16.wrap v≤65535;rw [xbs];omega⟩
theorem xjx:xbh c0:=by unfold xbh;decide
theorem ydv (l:PLay) (s:List Int) (p:Cell) (n:Int) (back:Bool):xbh (xc4 l s p n back).1:=by
 unfold xc4;split
 ·exact xjx
 ·split
  ·exact xjx
  ·split
   ·exact okU 1 (by decide) _
   ·exact xjx
theorem xvi (b:Bool):xbh (xik b):=by unfold xbh;cases b<;>decide
theorem yil (op:Int) {b c:Int} (hb:0≤b∧b≤65535) (hc:0≤c∧c≤65535):xbh (numS op b c).1:=by
 have z:(0:Int)≤0∧(0:Int)≤2:=by decide
 unfold numS
 repeat' split
 ·exact okU 0 z _
 ·exact okU 0 z _
 ·exact okU 0 z _
 ·exact xjx
 ·exact okU 0 z _
 ·refine⟨z.1,z.2,?_,?_⟩
  ·exact Int.tmod_nonneg _ hb.1
  ·have h0:b.tmod c=b % c:=Int.tmod_eq_emod_of_nonneg hb.1
   show b.tmod c≤65535;have:=Int.emod_lt_of_pos b (show 0<c by omega);omega
 ·exact okU 0 z _
 ·exact okU 0 z _
 ·exact okU 0 z _
 ·exact okU 0 z _
 ·generalize (min (c.tmod 16).toNat 16)=q
  have hp:(0:Int)<2 ^ q:=Int.pow_pos (by decide);have e:b.fdiv (2 ^ q)=b / 2 ^ q:=Int.fdiv_eq_ediv_of_nonneg b (by omega);refine⟨z.1,z.2,?_,?_⟩
  ·show 0≤b.fdiv (2 ^ q)
   rw [e];exact Int.ediv_nonneg hb.1 (by omega)
  ·show b.fdiv (2 ^ q)≤65535
   rw [e];have:=Int.ediv_le_self (2 ^ q) hb.1;omega
 ·exact xvi _
theorem yik (l:PLay) (s:List Int) (op:Int) {b c:Cell} (hb:xbh b) (hc:xbh c):xbh (aluS l s op b c).1:=by
 unfold aluS
 repeat' split
 all_goals first|exact xjx|exact xvi _|exact yil _ ⟨hb.2.2.1,hb.2.2.2⟩ ⟨hc.2.2.1,hc.2.2.2⟩|exact ydv _ _ _ _ _|exact okU 0 (by decide) _
theorem xcm {p:PProg} {C:Int} {m:PMach} (h:okMach p C m) {t:Nat} (ht:t<4):okThr C m.thr[t]!:=by
 rw [List.getElem!_eq_getElem?_getD,List.getElem?_eq_getElem (by rw [h.n];exact ht)];exact h.thr _ (List.getElem_mem _)
theorem okThr.le {C D:Int} {x:PThr} (h:okThr C x) (hc:C≤D):okThr D x:=by
 obtain⟨h1,h2,h3,h4,h5,h6,h7,h8,h9⟩:=h;exact⟨h1,h2,h3,h4,h5,h6,h7,by omega,h9⟩
theorem okMach.set {p:PProg} {C D:Int} {m:PMach} (h:okMach p C m) (hc:C≤D) {me:PMem} (hm:xfi me) (t:Nat) {x:PThr} (hx:okThr D x):okMach p D ⟨m.lay,me,m.thr.set t x⟩:=
 ⟨h.prog,h.lay,hm,by simp [h.n],fun y hy=>by
  rcases List.mem_or_eq_of_mem_set hy with h1|rfl
  ·exact(h.thr y h1).le hc
  ·exact hx⟩
theorem yio {C:Int} {x:PThr} (h:okThr C x) {why:Int} (h1:0≤why) (h2:why≤6):okThr C (xfm x why):=by
 obtain⟨a1,a2,a3,a4,a5,a6,a7,a8,a9,a10,a11,a12,a13,a14⟩:=h;exact⟨a1,by show(0:Int)≤4;decide,by show(4:Int)≤4;decide,a4,a5,a6,a7,a8,a9,a10,a11,a12,h1,h2⟩
theorem xj1 {C:Int} {x:PThr} (h:okThr C x) (r:Int) {c:Cell} (hc:xbh c):okThr C (setR x r c):=by
 obtain⟨a1,a2,a3,a4,a5⟩:=h;exact⟨xt2 a1 _ hc,a2,a3,by show(List.set _ _ _).length=8;rw [List.length_set];exact a4,a5⟩
theorem xsx {C:Int} {x:PThr} (h:okThr C x) (i:PInstr) {n:Int} (h1:0≤n) (h2:n≤255):okThr (C+1) (xcs i x n):=by
 obtain⟨a1,a2,a3,a4,a5,a6,a7,a8,a9⟩:=h;refine⟨a1,a2,a3,a4,h1,h2,?_,?_,a9⟩
 ·unfold xcs;dsimp only;split<;>omega
 ·unfold xcs;dsimp only;split<;>omega
theorem xng (l:PLay) (s:List Int) (p:Cell) (n:Int) (back:Bool):0≤(xc4 l s p n back).2∧(xc4 l s p n back).2≤6:=by
 unfold xc4;split
 ·decide
 ·split
  ·decide
  ·split<;>first|decide|exact⟨Int.le_refl 0,by show(0:Int)≤6;decide⟩
theorem ye1 (op b c:Int):0≤(numS op b c).2∧(numS op b c).2≤6:=by
 unfold numS
 repeat' split
 all_goals first|decide|exact⟨Int.le_refl 0,by show(0:Int)≤6;decide⟩
theorem xvj (l:PLay) (s:List Int) (op:Int) (b c:Cell):0≤(aluS l s op b c).2∧(aluS l s op b c).2≤6:=by
 unfold aluS
 repeat' split
 all_goals first|exact ye1 _ _ _|exact xng _ _ _ _ _|decide|exact⟨Int.le_refl 0,by show(0:Int)≤6;decide⟩
theorem xhj {p:PProg} (h:okProg p) {k:Nat} (hk:k<p.code.length):xp3 p.code[k]!∧(xbm p.code[k]!.op→p.code[k]!.imm<p.code.length)∧(p.code[k]!.op=15→p.code[k]!.imm<p.sizes.length):=by
 rw [List.getElem!_eq_getElem?_getD,List.getElem?_eq_getElem hk];exact h.ins _ (List.getElem_mem hk)
theorem xa6 {α:Type} {P:α→Prop} {c:Prop} [Decidable c] {a b:α} (h1:c→P a) (h2:¬c→P b):P (if c then a else b):=by
 by_cases h:c
 ·rw [if_pos h];exact h1 h
 ·rw [if_neg h];exact h2 h
theorem yew {p:PProg} {C:Int} {m:PMach} (h:okMach p C m) {t:Nat} (ht:t<4):okMach p (C+1) (sOne p m t).1:=by
 have hx:=xcm h ht;have hx':=hx;obtain⟨a1,a2,a3,a4,a5,a6,a7,a8,a9,a10,a11,a12,a13,a14⟩:=hx';have hc:C≤C+1:=by omega
 have tr:∀why:Int,0≤why→why≤6→okMach p (C+1) (m.setT t (xfm m.thr[t]! why)):=fun why h1 h2=>h.set hc h.mem t ((yio hx h1 h2).le hc);have hcl:=h.prog.c2;unfold sOne;refine xa6 (P:=fun r:PMach×Int=>okMach p (C+1) r.1) (fun _=>tr 2 (by decide) (by decide)) fun hpc=>?_;obtain⟨⟨i1,i2,⟨i3,i4,_⟩,⟨i5,i6,_⟩,⟨i7,i8,_⟩,⟨i9,i10,_⟩,i11,i12,i13⟩,hj,hle⟩:=xhj h.prog (k:=m.thr[t]!.pc.toNat) (by omega);generalize p.code[m.thr[t]!.pc.toNat]! =i at *;have hb:xbh m.thr[t]!.regs[i.b.toNat]!:=xb3 a1 (by omega);have ha:xbh m.thr[t]!.regs[i.a.toNat]!:=xb3 a1 (by omega);have nx:∀(y:PThr) (n:Int),okThr C y→0≤n→n≤255→okMach p (C+1) (m.setT t (xcs i y n)):=fun y n k1 k2 k3=>h.set hc h.mem t (xsx k1 i k2 k3);have n1:0≤m.thr[t]!.pc+1:=by omega
 have n2:m.thr[t]!.pc+1≤255:=by omega
 refine xa6 (P:=fun r:PMach×Int=>okMach p (C+1) r.1) (fun _=>nx _ _ hx n1 n2) fun _=>?_;refine xa6 (P:=fun r:PMach×Int=>okMach p (C+1) r.1) (fun _=>nx _ _ (xj1 hx _ (okU _ (by decide) _)) n1 n2) fun _=>?_;refine xa6 (P:=fun r:PMach×Int=>okMach p (C+1) r.1) (fun _=>nx _ _ (xj1 hx _ hb) n1 n2) fun _=>?_;refine xa6 (P:=fun r:PMach×Int=>okMach p (C+1) r.1) (fun _=>nx _ _ (xj1 hx _ (okU _ (by decide) _)) n1 n2) fun _=>?_;refine xa6 (P:=fun r:PMach×Int=>okMach p (C+1) r.1) (fun hop=>?_) fun _=>?_
 ·generalize (if i.op=17 then m.thr[t]!.regs[i.a.toNat]! else m.thr[t]!.regs[i.b.toNat]!)=q
  refine xa6 (P:=fun r:PMach×Int=>okMach p (C+1) r.1) (fun _=>tr _ (xng _ _ _ _ _).1 (xng _ _ _ _ _).2) fun he=>?_;have he:(xc4 m.lay p.sizes q (IntKind.u16.wrap i.imm) false).2=0:=Classical.byContradiction he;obtain⟨_,k1,k2⟩:=xh1 h.lay he;refine xa6 (P:=fun r:PMach×Int=>okMach p (C+1) r.1) (fun _=>?_) fun _=>?_
  ·exact h.set hc (xyv h.mem k1 k2).1 t (xsx (xj1 hx _ (xyv h.mem k1 k2).2) i n1 n2)
  ·exact h.set hc (xif h.mem k1 k2 hb) t (xsx hx i n1 n2)
 refine xa6 (P:=fun r:PMach×Int=>okMach p (C+1) r.1) (fun e=>?_) fun _=>?_
 ·have:=hj (.inl e)
  exact nx _ _ hx i9 (by omega)
 refine xa6 (P:=fun r:PMach×Int=>okMach p (C+1) r.1) (fun e=>?_) fun _=>?_
 ·have:=hj (e.elim (fun h=> .inr (.inl h)) fun h=> .inr (.inr (.inl h)))
  refine xa6 (P:=fun r:PMach×Int=>okMach p (C+1) r.1) (fun _=>tr 3 (by decide) (by decide)) fun _=>?_;refine nx _ _ hx ?_ ?_
  ·exact xa6 (P:=fun n:Int=>0≤n) (fun _=>i9) fun _=>n1
  ·exact xa6 (P:=fun n:Int=>n≤255) (fun _=>by omega) fun _=>n2
 refine xa6 (P:=fun r:PMach×Int=>okMach p (C+1) r.1) (fun e=>?_) fun _=>?_
 ·have:=hj (.inr (.inr (.inr e)))
  exact nx _ _ (xj1 hx _ (okU _ (by decide) _)) i9 (by omega)
 refine xa6 (P:=fun r:PMach×Int=>okMach p (C+1) r.1) (fun _=>?_) fun _=>?_
 ·refine xa6 (P:=fun r:PMach×Int=>okMach p (C+1) r.1) (fun _=>tr 3 (by decide) (by decide)) fun _=>?_
  refine xa6 (P:=fun r:PMach×Int=>okMach p (C+1) r.1) (fun _=>tr 2 (by decide) (by decide)) fun _=>?_;exact nx _ _ hx ha.2.2.1 (by omega)
 refine xa6 (P:=fun r:PMach×Int=>okMach p (C+1) r.1) (fun _=>?_) fun _=>?_
 ·refine xa6 (P:=fun r:PMach×Int=>okMach p (C+1) r.1) (fun _=>tr 1 (by decide) (by decide)) fun _=>?_
  exact nx _ _ ⟨a1,a2,a3,a4,a5,a6,a7,a8,a9,a10,by show(-1:Int)≤-1;decide,by show(-1:Int)≤255;decide,a13,a14⟩ (by omega) a12
 refine xa6 (P:=fun r:PMach×Int=>okMach p (C+1) r.1) (fun _=>?_) fun _=>?_
 ·exact h.set hc h.mem t ⟨a1,by show(0:Int)≤2;decide,by show(2:Int)≤4;decide,a4,n1,n2,a7,by show m.thr[t]!.count≤C+1;omega,a9,a10,a11,a12,a13,a14⟩
 refine xa6 (P:=fun r:PMach×Int=>okMach p (C+1) r.1) (fun _=>tr _ (xvj _ _ _ _ _).1 (xvj _ _ _ _ _).2) fun _=>?_;exact nx _ _ (xj1 hx _ (yik _ _ _ hb (xb3 a1 (by omega)))) n1 n2
theorem xit {α:Type} [Inhabited α] {l:List α} {k:Nat} (h:k<l.length) (x:α):(l.set k x)[k]! =x:=by
 rw [List.getElem!_eq_getElem?_getD,List.getElem?_set_self h];rfl
def Goes (p:PProg) (x y:PThr):Prop:=y.state=x.state∧0≤y.pc∧y.pc≤255∧(y.count=x.count+1∨y.count=x.count∧y.pc=x.pc+1∧x.pc<p.code.length)
theorem xfv {p:PProg} {C:Int} {m:PMach} (h:okMach p C m) {t:Nat} (ht:t<4) (hg:(sOne p m t).2=-1):Goes p m.thr[t]! (sOne p m t).1.thr[t]!:=by
 have ok:=yew h ht;have hy:=xcm ok ht;have hx:=xcm h ht;obtain⟨a1,a2,a3,a4,a5,a6,a7,a8,a9,a10,a11,a12,a13,a14⟩:=hx
 revert hg hy ok
 have st:∀(y:PThr),(m.setT t y).thr[t]! =y:=fun y=>xit (by rw [h.n];exact ht) y;unfold sOne;refine xa6 (P:=fun r:PMach×Int=>r.2=-1→okMach p (C+1) r.1→okThr (C+1) r.1.thr[t]!→Goes p m.thr[t]! r.1.thr[t]!) ?_ fun hpc=>?_
 ·rintro _ e;cases e
 have hpc:m.thr[t]!.pc<p.code.length:=by omega
 generalize p.code[m.thr[t]!.pc.toNat]! =i at *;have nx:∀(y:PThr) (n:Int),y.state=m.thr[t]!.state→y.count=m.thr[t]!.count→(xab i.op∨n=m.thr[t]!.pc+1)→okThr (C+1) (m.setT t (xcs i y n)).thr[t]!→Goes p m.thr[t]! (m.setT t (xcs i y n)).thr[t]!:=fun y n k1 k2 k3 k4=>by
  rw [st] at k4⊢;obtain⟨_,_,_,_,b1,b2,_⟩:=k4;refine⟨k1,b1,b2,?_⟩;by_cases hb:xab i.op
  ·refine .inl ?_
   show(if xab i.op then y.count+1 else y.count)=_;rw [if_pos hb,k2]
  ·refine .inr ⟨?_,k3.resolve_left hb,hpc⟩
   show(if xab i.op then y.count+1 else y.count)=_;rw [if_neg hb,k2]
 have nm:∀(me:PMem) (y:PThr) (n:Int),y.state=m.thr[t]!.state→y.count=m.thr[t]!.count→(xab i.op∨n=m.thr[t]!.pc+1)→okThr (C+1) (m.setT t (xcs i y n)).thr[t]!→Goes p m.thr[t]! (⟨m.lay,me,m.thr.set t (xcs i y n)⟩:PMach).thr[t]!:=fun me y n k1 k2 k3 k4=>nx y n k1 k2 k3 k4
 let P:PMach×Int→Prop:=fun r=>r.2=-1→okMach p (C+1) r.1→okThr (C+1) r.1.thr[t]!→Goes p m.thr[t]! r.1.thr[t]!
 refine xa6 (P:=P) (fun _ _ _ hy=>nx _ _ rfl rfl (.inr rfl) hy) fun _=>?_;refine xa6 (P:=P) (fun _ _ _ hy=>nx _ _ rfl rfl (.inr rfl) hy) fun _=>?_;refine xa6 (P:=P) (fun _ _ _ hy=>nx _ _ rfl rfl (.inr rfl) hy) fun _=>?_;refine xa6 (P:=P) (fun _ _ _ hy=>nx _ _ rfl rfl (.inr rfl) hy) fun _=>?_;refine xa6 (P:=P) (fun _=>?_) fun _=>?_
 ·refine xa6 (P:=P) ?_ fun _=>?_
  ·rintro _ e;cases e
  refine xa6 (P:=P) (fun _ _ _ hy=>nm _ _ _ rfl rfl (.inr rfl) hy) fun _ _ _ hy=>nm _ _ _ rfl rfl (.inr rfl) hy
 refine xa6 (P:=P) (fun e _ _ hy=>nx _ _ rfl rfl (.inl (.inl (.inl e))) hy) fun _=>?_;refine xa6 (P:=P) (fun e=>?_) fun _=>?_
 ·refine xa6 (P:=P) ?_ fun _ _ _ hy=>nx _ _ rfl rfl (.inl (.inl (e.elim (fun h=> .inr (.inl h)) fun h=> .inr (.inr (.inl h))))) hy
  ·rintro _ e;cases e
 refine xa6 (P:=P) (fun e _ _ hy=>nx _ _ rfl rfl (.inl (.inl (.inr (.inr (.inr e))))) hy) fun _=>?_;refine xa6 (P:=P) (fun e=>?_) fun _=>?_
 ·refine xa6 (P:=P) ?_ fun _=>?_
  ·rintro _ e;cases e
  refine xa6 (P:=P) ?_ fun _ _ _ hy=>nx _ _ rfl rfl (.inl (.inr (.inl e))) hy
  ·rintro _ e;cases e
 refine xa6 (P:=P) (fun e=>?_) fun _=>?_
 ·refine xa6 (P:=P) ?_ fun _ _ _ hy=>nx _ _ rfl rfl (.inl (.inr (.inr e))) hy
  ·rintro _ e;cases e
 refine xa6 (P:=P) ?_ fun _=>?_
 ·rintro _ e;cases e
 refine xa6 (P:=P) ?_ fun _ _ _ hy=>nx _ _ rfl rfl (.inr rfl) hy
 ·rintro _ e;cases e
def muS (til:Int) (x:PThr):Nat:=((til-x.count)*300+(299-x.pc)).toNat
theorem xmk {p:PProg} {x y:PThr} {til:Int} (h:Goes p x y) (h1:x.count<til) (h2:0≤x.pc) (h3:x.pc≤255):muS til y<muS til x∧y.count≤til:=by
 obtain⟨_,k1,k2,k3⟩:=h;unfold muS;rcases k3 with k3|⟨k3,k4,_⟩
 ·rw [k3];omega
 ·rw [k3,k4];omega
theorem xi8 (p:PProg) (m:PMach) (t:Nat):∃me y,(sOne p m t).1=⟨m.lay,me,m.thr.set t y⟩∧((sOne p m t).2≠-1→y.count=m.thr[t]!.count)∧((sOne p m t).2=-1∨(sOne p m t).2=1∨(sOne p m t).2=2):=by
 unfold sOne
 let P:PMach×Int→Prop:=fun r=>∃me y,r.1=⟨m.lay,me,m.thr.set t y⟩∧(r.2≠-1→y.count=m.thr[t]!.count)∧(r.2=-1∨r.2=1∨r.2=2)
 have go:∀(me:PMem) (y:PThr),P (⟨m.lay,me,m.thr.set t y⟩,-1):=fun me y=>⟨me,y,rfl,fun h=>absurd rfl h,.inl rfl⟩;have tr:∀(why:Int),P (m.setT t (xfm m.thr[t]! why),2):=fun why=>⟨_,_,rfl,fun _=>rfl,.inr (.inr rfl)⟩;refine xa6 (P:=P) (fun _=>tr _) fun _=>?_;generalize p.code[m.thr[t]!.pc.toNat]! =i;refine xa6 (P:=P) (fun _=>go _ _) fun _=>?_;refine xa6 (P:=P) (fun _=>go _ _) fun _=>?_;refine xa6 (P:=P) (fun _=>go _ _) fun _=>?_;refine xa6 (P:=P) (fun _=>go _ _) fun _=>?_;refine xa6 (P:=P) (fun _=>?_) fun _=>?_
 ·refine xa6 (P:=P) (fun _=>tr _) fun _=>?_
  exact xa6 (P:=P) (fun _=>go _ _) fun _=>go _ _
 refine xa6 (P:=P) (fun _=>go _ _) fun _=>?_;refine xa6 (P:=P) (fun _=>?_) fun _=>?_
 ·exact xa6 (P:=P) (fun _=>tr _) fun _=>go _ _
 refine xa6 (P:=P) (fun _=>go _ _) fun _=>?_;refine xa6 (P:=P) (fun _=>?_) fun _=>?_
 ·refine xa6 (P:=P) (fun _=>tr _) fun _=>?_
  exact xa6 (P:=P) (fun _=>tr _) fun _=>go _ _
 refine xa6 (P:=P) (fun _=>?_) fun _=>?_
 ·exact xa6 (P:=P) (fun _=>tr _) fun _=>go _ _
 refine xa6 (P:=P) (fun _=>⟨_,_,rfl,fun _=>rfl,.inr (.inl rfl)⟩) fun _=>?_;exact xa6 (P:=P) (fun _=>tr _) fun _=>go _ _
theorem xiy {p:PProg} {D:Int} {m:PMach} (h:okMach p D m) {t:Nat} (ht:t<4) (hc:m.thr[t]!.count+1≤D):okMach p D (sOne p m t).1:=by
 have ok:=yew h ht;obtain⟨me,y,e,k1,_⟩:=xi8 p m t;have hy:=xcm ok ht;have ey:(sOne p m t).1.thr[t]! =y:=by rw [e];exact xit (by rw [h.n];exact ht) y
 have hcy:y.count≤D:=by
  by_cases hg:(sOne p m t).2=-1
  ·obtain⟨_,_,_,g⟩:=xfv h ht hg
   rw [ey] at g;rcases g with g|g<;>omega
  ·rw [k1 hg];omega
 rw [ey] at hy;obtain⟨b1,b2,b3,b4,b5,b6,b7,b8,b9⟩:=hy;have okm:=ok.mem;rw [e] at okm⊢;exact h.set (Int.le_refl D) okm t ⟨b1,b2,b3,b4,b5,b6,b7,hcy,b9⟩
def xf0 (p:PProg) (m:PMach) (t:Nat) (n:Int):PMach×Int:=
 if m.thr[t]!.state≠1 then(m,3) else xbk p t (m.thr[t]!.count+n) (muS (m.thr[t]!.count+n) m.thr[t]!) m
theorem xrm {p:PProg} {D:Int} {t:Nat} (ht:t<4) {til:Int} (htD:til≤D):∀(k:Nat) (m:PMach),okMach p D m→m.thr[t]!.count<til→okMach p D (xbk p t til k m).1
 |0,m,h,_=>h
 |k+1,m,h,hc=>by
  have ok:=xiy h ht (by omega);unfold xbk;refine xa6 (P:=fun r:PMach×Int=>okMach p D r.1) (fun _=>ok) fun hg=>?_;have hg:(sOne p m t).2=-1:=Classical.byContradiction hg;obtain⟨_,_,_,g⟩:=xfv h ht hg;refine xa6 (P:=fun r:PMach×Int=>okMach p D r.1) (fun _=>ok) fun hne=>?_;exact xrm ht htD k _ ok (by rcases g with g|g<;>omega)
theorem xvc {p:PProg} {C n:Int} {m:PMach} (h:okMach p C m) {t:Nat} (ht:t<4) (hn:1≤n):okMach p (C+n) (xf0 p m t n).1:=by
 have h':okMach p (C+n) m:=⟨h.prog,h.lay,h.mem,h.n,fun x hx=>(h.thr x hx).le (by omega)⟩;obtain⟨_,_,_,_,_,_,_,h8,_⟩:=xcm h ht;unfold xf0;refine xa6 (P:=fun r:PMach×Int=>okMach p (C+n) r.1) (fun _=>h') fun _=>?_;exact xrm ht (by omega) _ _ h' (by omega)
section
variable {p:PProg} {m:PMach} {t k:Nat} {til:Int}
theorem xe7 (hg:(sOne p m t).2≠-1):xbk p t til (k+1) m=sOne p m t:=by unfold xbk;exact if_pos hg
theorem xfa (hg:(sOne p m t).2=-1) (he:(sOne p m t).1.thr[t]!.count=til):xbk p t til (k+1) m=((sOne p m t).1,0):=by
 unfold xbk;exact(if_neg (fun h=>h hg)).trans (if_pos he)
theorem xgr (hg:(sOne p m t).2=-1) (he:(sOne p m t).1.thr[t]!.count≠til):xbk p t til (k+1) m=xbk p t til k (sOne p m t).1:=by
 rw [xbk];exact(if_neg (fun h=>h hg)).trans (if_neg he)
end
theorem xh6 {p:PProg} {D:Int} {t:Nat} (ht:t<4) {til:Int} (htD:til≤D):∀(k:Nat) (m:PMach),okMach p D m→m.thr[t]!.count<til→muS til m.thr[t]!≤k→xbk p t til k m=xbk p t til (muS til m.thr[t]!) m:=by
 intro k
 induction k using Nat.strongRecOn with
 |_ k ih=>
  intro m h hc hk;obtain⟨_,_,_,_,a5,a6,_⟩:=xcm h ht;obtain⟨q,hq⟩:∃q,muS til m.thr[t]! =q+1:=⟨muS til m.thr[t]!-1,by unfold muS;omega⟩;obtain⟨k',rfl⟩:∃k',k=k'+1:=⟨k-1,by omega⟩;rw [hq];by_cases hg:(sOne p m t).2=-1
  ·by_cases he:(sOne p m t).1.thr[t]!.count=til
   ·rw [xfa hg he,xfa hg he]
   ·rw [xgr hg he,xgr hg he]
    have g:=xfv h ht hg;obtain⟨m1,m2⟩:=xmk g hc a5 a6;have ok:=xiy h ht (by omega);rw [ih k' (by omega) _ ok (by omega) (by omega)];exact(ih q (by omega) _ ok (by omega) (by omega)).symm
  ·rw [xe7 hg,xe7 hg]
end Go.Proofs.YtbgpfigkcpmnfaaGreat
