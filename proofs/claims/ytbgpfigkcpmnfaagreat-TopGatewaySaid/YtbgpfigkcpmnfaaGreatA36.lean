import Derived.Test.YtbgpfigkcpmnfaaGreatA8
import Derived.Test.YtbgpfigkcpmnfaaGreatA35
import Derived.Test.YtbgpfigkcpmnfaaGreatA6
import Derived.Test.YtbgpfigkcpmnfaaGreatA25
set_option linter.unusedSimpArgs false
set_option linter.unusedVariables false
set_option maxHeartbeats 64000000
set_option maxRecDepth 100000
namespace Go.Proofs.YtbgpfigkcpmnfaaGreat
open Go Go.RowKit Rdn Rdn.Dp
theorem xfu:xcd Tryz.prog 89=some (89,Qr ([Qw 4 (.box 29 (.t 0)),Qw 5 (.box 39 (.t 1)),Qw 6 (.box 96 (.t 2)),Qw 7 (.box 100 (.t 3)),Qw 8 (.alloc 39 (.agg [.agg [.nilS,.int .u16 0],.agg [.nilS,.nilS],.nilS])),Qc 9 (.bool false)])
 (.seq (.seq (.dreg [QL 11 3 4,QL 12 5 5,Qq 13 100 [(.t 11),(.t 12)],Qp 14 (.un .not (.t 13)),Qm 15 14,Q0 16 15 (.load true 8 (.t 6)),⟨(some 17),(some (15,false)),(.call 111 [(.t 16)])⟩,Q0 18 15 (.un .not (.t 17)),Qt 19 15 18,Qm 20 19,Q0 21 20 (.fieldA 1 1 (.t 6)),Q0 22 20 (.load false 1 (.t 21)),Q0 23 20 (.bin 0 .neq (.t 22) (Qi 1)),Qt 24 20 23,Qm 25 24,Q0 26 25 (.fieldA 6 6 (.t 6)),Q0 27 25 (.load false 1 (.t 26)),Q0 28 25 (.len (.t 27)),Q0 29 25 (.fieldA 5 5 (.t 6)),Q0 30 25 (.load false 1 (.t 29)),⟨(some 31),(some (25,false)),(.call 83 [(.t 30)])⟩,Q0 32 25 (.bin 0 .neq (.t 28) (.t 31)),Qt 33 25 32,Qm 34 33,Q0 35 34 (.load true 7 (.t 7)),⟨(some 36),(some (34,false)),(.call 112 [(.t 35)])⟩,Q0 37 34 (.un .not (.t 36)),Qt 38 34 37,Qm 39 38,Q0 40 39 (.fieldA 4 2 (.t 5)),Q0 41 39 (.load false 1 (.t 40)),Q0 42 39 (.fieldA 0 0 (.t 6)),Q0 43 39 (.load false 1 (.t 42)),Q0 44 39 (.idxA 8 (.t 41) (.t 43)),Q0 45 39 (.fieldA 0 0 (.t 44)),Q0 46 39 (.load false 1 (.t 45)),Q0 47 39 (.bin 0 .neq (.t 46) (Qi 2)),Qt 48 39 47] [[],[],[0,1],[0,1,2],[0,1,2,3],[0,1,2,3,4],[0,1,2,3,4,5],[0,1,2,3,4,5,6],[0,1,2,3,4,5,6,7],[0,1,2,3,4,5,6,7,8],[0,1,2,3,4,5,6,7,8,9],[0,1,2,3,4,5,6,7,8,9,10],[0,1,2,3,4,5,6,7,8,9,10,11],[0,1,2,3,4,5,6,7,8,9,10,11,12],[0,1,2,3,4,5,6,7,8,9,10,11,12,13],[0,1,2,3,4,5,6,7,8,9,10,11,12,13,14],[0,1,2,3,4,5,6,7,8,9,10,11,12,13,14,15],[0,1,2,3,4,5,6,7,8,9,10,11,12,13,14,15,16],[0,1,2,3,4,5,6,7,8,9,10,11,12,13,14],[0,1,2,3,4,5,6,7,8,9,10,11,12,13,14,18],[0,1,2,3,4,5,6,7,8,9,10,11,12,13,14,18,19],[0,1,2,3,4,5,6,7,8,9,10,11,12,13,14,15,16,17,18,19,20],[0,1,2,3,4,5,6,7,8,9,10,11,12,13,14,15,16,17,18,19,20,21],[0,1,2,3,4,5,6,7,8,9,10,11,12,13,14,15,16,17,18,19,20,21,22],[0,1,2,3,4,5,6,7,8,9,10,11,12,13,14,15,16,17,18,19,20,21,22,23],[0,1,2,3,4,5,6,7,8,9,10,11,12,13,14,15,16,17,18,19,20,21,22,23,24],[0,1,2,3,4,5,6,7,8,9,10,11,12,13,14,15,16,17,18,19,20,21,22,23,24,25],[0,1,2,3,4,5,6,7,8,9,10,11,12,13,14,15,16,17,18,19,20,21,22,23,24,25,26],[0,1,2,3,4,5,6,7,8,9,10,11,12,13,14,15,16,17,18,19,20,21,22,23,24,25,26,27],[0,1,2,3,4,5,6,7,8,9,10,11,12,13,14,15,16,17,18,19,20,21,22,23,24,25,26,27,28],[0,1,2,3,4,5,6,7,8,9,10,11,12,13,14,15,16,17,18,19,20,21,22,23,24,25,26,27,28,29],[0,1,2,3,4,5,6,7,8,9,10,11,12,13,14,15,16,17,18,19,20,21,22,23,24,25,26,27,28],[0,1,2,3,4,5,6,7,8,9,10,11,12,13,14,15,16,17,18,19,20,21,22,23,24,25,26,27,28,31],[0,1,2,3,4,5,6,7,8,9,10,11,12,13,14,15,16,17,18,19,20,21,22,23,24,25,26,27,28,29,30,31,32],[0,1,2,3,4,5,6,7,8,9,10,11,12,13,14,15,16,17,18,19,20,21,22,23,24,25,26,27,28,29,30,31,32,33],[0,1,2,3,4,5,6,7,8,9,10,11,12,13,14,15,16,17,18,19,20,21,22,23,24,25,26,27,28,29,30,31,32,33,34],[0,1,2,3,4,5,6,7,8,9,10,11,12,13,14,15,16,17,18,19,20,21,22,23,24,25,26,27,28,29,30,31,32,33,34,35],[0,1,2,3,4,5,6,7,8,9,10,11,12,13,14,15,16,17,18,19,20,21,22,23,24,25,26,27,28,29,30,31,32,33,34,35,36]])
 (.cond (.t 48) (Qr ([QL 49 5 5,Qs 5 8 49,Qc 9 (.bool false)])
 (.ret)) (.skip)))
 (Qr ([QL 50 5 5,Qq 51 79 [(.t 50)],Qw 10 (.alloc 39 (.agg [.agg [.nilS,.int .u16 0],.agg [.nilS,.nilS],.nilS])),Qs 5 10 51])
 (.seq (.block 0 (Qr ([Qf 59 5 5 6,Ql 60 1 59,Qk 61 .eql 60 0,Qm 58 61])
 (.cond (.t 58) (.dreg [Qf 62 4 2 10,Ql 63 1 62,Qf 64 0 0 6,Ql 65 1 64,Qf 66 4 2 10,Ql 67 1 66,Qf 68 0 0 6,Ql 69 1 68,Qx 70 8 67 69,QL 71 8 70,Qf 72 6 6 6,Ql 73 1 72,Qp 74 (.idxA 4 (.t 73) (Qi 0)),Qf 75 1 1 74,Ql 76 1 75,Qq 77 82 [(.t 71),(Qi 0),(.t 76)],Qx 78 8 63 65,Qs 8 78 77] [[],[0],[],[2],[],[4],[],[6],[4,5,6,7],[4,5,6,7,8],[],[10],[10,11],[10,11,12],[10,11,12,13],[4,5,6,7,8,9,10,11,12,13,14],[0,1,2,3,4,5,6,7,8,9,10,11,12,13,14,15],[0,1,2,3,4,5,6,7,8,9,10,11,12,13,14,15,16]]) (Qr ([Qf 80 6 3 7,Ql 81 1 80,Qm 79 81])
 (.cond (.t 79) (.reg [Qf 82 4 2 10,Ql 83 1 82,Qf 84 0 0 6,Ql 85 1 84,Qx 86 8 83 85,Qf 87 0 0 86,⟨none,none,(.m (.store 1 (.t 87) (Qi 3)))⟩]) (Qr ([QL 52 3 4,QL 53 8 6,QL 54 7 7,Qq 55 113 [(.t 52),(.t 10),(.t 53),(.t 54)],Qp 56 (.un .not (.t 55))])
 (.cond (.t 56) (Qr ([QL 57 5 5,Qs 5 8 57,Qc 9 (.bool false)])
 (.ret)) (.skip))))))))
 (Qr ([QL 88 5 10,Qs 5 8 88,Qc 9 (.bool true)])
 (.ret))))),[.load true 5 (.t 8),.mov (.t 9)]):=by kernel_rfl
theorem ycs {p:PProg} {m:PMach} {t:Nat} {q:Request} {x:Rdn.Result}:(putS p m t q x).1.lay=m.lay:=by
 unfold putS;refine xa6 (P:=fun r:PMach×Bool=>r.1.lay=m.lay) (fun _=>rfl) fun _=>?_;refine xa6 (P:=fun r:PMach×Bool=>r.1.lay=m.lay) (fun _=>rfl) fun _=>?_;exact xa6 (P:=fun r:PMach×Bool=>r.1.lay=m.lay) (fun _=>rfl) fun _=>rfl
theorem xy6 (p:PProg) (m:PMach) (h:okMach p 1099511627776 m) (t:Nat) (ht:t<4) (q:Request) (F:FitQ q) (hs:q.stop=1) (hq:q.thread=t) (x:Rdn.Result) (h1:xcw x.value=true) (h2:xba x.data 16=true) (hv:rngC x.value) (k:PutOk p m t q x):Fnc Tryz.prog 89 [xbn false p,xd8 false m,reqV q,resV x] (fun y obs=>y=.tup [xd8 false (finS p m t q x).1,.bool (finS p m t q x).2]∧obs=[]):=by
 refine Fnc.low ?_;have fv:=xuf p m h;have fq:=xds q;rw [xhf F] at fq;have fa:=ye7 q.call k.c0 k.c1;have fr:=xpi x h1 h2 k.sp;have fc:=xvl m h;have okl:=h.mem.2.1;have okn:=h.n;have fp:=yks p m 1099511627776 h t ht q hq x k;have fe:=yb0 m.thr[t]! (xcm h ht).2.2.2.1 0 q.args[0]!.val;have hst:=k.st;have hal:=k.al;have hpo:okMach p 1099511627776 (putS p m t q x).1:=xzr (by decide) h ht hv k.rd k.ra (fun e=>by rw [k.al,e];rfl) (fun e=>by rw [k.al,e];rfl);clear k;obtain⟨lay,mem,thr⟩:=m;obtain⟨x0,x1,x2,x3,rfl⟩:=four okn;unfold finS;by_cases e0:q.call=0
 ·rw [if_pos e0]
  have ha1:q.args.length=1:=by rw [hal,e0];rfl
  have okn2:((⟨lay,mem,[x0,x1,x2,x3]⟩:PMach).setT t (endS (⟨lay,mem,[x0,x1,x2,x3]⟩:PMach).thr[t]! 0 q.args[0]!.val)).thr.length=4:=by simp [PMach.setT]
  simp only [xd8,memV,xb5 (thrV false) okn2,xb5 (xf3 false) (show((⟨lay,mem,[x0,x1,x2,x3]⟩:PMach).setT t (endS (⟨lay,mem,[x0,x1,x2,x3]⟩:PMach).thr[t]! 0 q.args[0]!.val)).mem.lines.length=4 from okl)];have hi:t=0∨t=1∨t=2∨t=3:=by omega
  rcases hi with rfl|rfl|rfl|rfl
  all_goals
   simp only [reqV,hq,PMach.setT,endS,List.getElem!_cons_zero,List.getElem!_cons_succ,List.set_cons_zero,List.set_cons_succ] at hst fe fq⊢;simp only [rowN,xbr,thrO,List.getElem!_cons_zero,List.getElem!_cons_succ] at fc;refine Fnc.intro xfu (by simp) fun W S=>?_;simp only [ents,Nat.zero_add,Nat.reduceAdd,Qm,Qc,Ql,QL,Qf,Qs,Qb,Qk,QB,Qn,Qe,Qx,Qt,Qu,Q0,Q1,Qp,Qw,Qq,Qr,Qi];refine zso ?_;refine xao (fu:=fu8) xap [] 0 rfl (by kernel_rfl) ?_;simp only [go_sem];refine zsv ?_
   (first|refine xaj (fv) ?_|refine xaa (fv) ?_);refine zev ?_
   refine zsv ?_
   (first|refine xaj (fq) ?_|refine xaa (fq) ?_);refine zev ?_
   refine zsv ?_
   (first|refine xaj (fa) ?_|refine xaa (fa) ?_);refine zev ?_
   refine zsv ?_
   (first|refine xaj (fr) ?_|refine xaa (fr) ?_);refine zev ?_
   refine zsv ?_
   (first|refine xhg (fc) ?_|refine xe0 (fc) ?_);refine zev ?_
   refine zso ?_;refine xa5 6 0 2 8 rfl rfl rfl rfl ?_;refine zls ?_;refine xa5 6 1 2 9 rfl rfl rfl rfl ?_;refine zls ?_;refine xa5 6 2 2 10 rfl rfl rfl rfl ?_;refine zls ?_;refine xa5 6 3 2 11 rfl rfl rfl rfl ?_;refine zls ?_;refine xa5 7 0 1 12 rfl rfl rfl rfl ?_;refine zls ?_;refine xa5 7 1 1 13 rfl rfl rfl rfl ?_;refine zls ?_;refine xa5 7 2 1 14 rfl rfl rfl rfl ?_;refine zls ?_;refine xa5 7 3 1 15 rfl rfl rfl rfl ?_;refine zls ?_;refine xa2 6 rfl (by rfl) ?_;refine zls ?_;refine xa2 7 rfl (by rfl) ?_;refine zls ?_;refine zst ?_;refine zcd (fe) ?_;exact zrt xfu
 rw [if_neg e0];by_cases e1:x.wait=true
 ·rw [if_pos e1]
  have okn2:((⟨lay,mem,[x0,x1,x2,x3]⟩:PMach).setT t (yb6 (⟨lay,mem,[x0,x1,x2,x3]⟩:PMach).thr[t]!)).thr.length=4:=by simp [PMach.setT]
  simp only [xd8,memV,xb5 (thrV false) okn2,xb5 (xf3 false) (show((⟨lay,mem,[x0,x1,x2,x3]⟩:PMach).setT t (yb6 (⟨lay,mem,[x0,x1,x2,x3]⟩:PMach).thr[t]!)).mem.lines.length=4 from okl)];have hi:t=0∨t=1∨t=2∨t=3:=by omega
  rcases hi with rfl|rfl|rfl|rfl
  all_goals
   simp only [reqV,resV,hq,e1,PMach.setT,yb6,List.getElem!_cons_zero,List.getElem!_cons_succ,List.set_cons_zero,List.set_cons_succ] at hst fq fr⊢;simp only [rowN,xbr,thrO,List.getElem!_cons_zero,List.getElem!_cons_succ] at fc;refine Fnc.intro xfu (by simp) fun W S=>?_;simp only [ents,Nat.zero_add,Nat.reduceAdd,Qm,Qc,Ql,QL,Qf,Qs,Qb,Qk,QB,Qn,Qe,Qx,Qt,Qu,Q0,Q1,Qp,Qw,Qq,Qr,Qi];refine zso ?_;refine xao (fu:=fu8) xap [] 0 rfl (by kernel_rfl) ?_;simp only [go_sem];refine zsv ?_
   (first|refine xaj (fv) ?_|refine xaa (fv) ?_);refine zev ?_
   refine zsv ?_
   (first|refine xaj (fq) ?_|refine xaa (fq) ?_);refine zev ?_
   refine zsv ?_
   (first|refine xaj (fa) ?_|refine xaa (fa) ?_);refine zev ?_
   refine zsv ?_
   (first|refine xaj (fr) ?_|refine xaa (fr) ?_);refine zev ?_
   refine zsv ?_
   (first|refine xhg (fc) ?_|refine xe0 (fc) ?_);refine zev ?_
   refine zso ?_;refine zst ?_;refine xa5 6 0 2 8 rfl rfl rfl rfl ?_;refine zls ?_;refine xa5 6 1 2 9 rfl rfl rfl rfl ?_;refine zls ?_;refine xa5 6 2 2 10 rfl rfl rfl rfl ?_;refine zls ?_;refine xa5 6 3 2 11 rfl rfl rfl rfl ?_;refine zls ?_;refine xa5 7 0 1 12 rfl rfl rfl rfl ?_;refine zls ?_;refine xa5 7 1 1 13 rfl rfl rfl rfl ?_;refine zls ?_;refine xa5 7 2 1 14 rfl rfl rfl rfl ?_;refine zls ?_;refine xa5 7 3 1 15 rfl rfl rfl rfl ?_;refine zls ?_;refine xa2 6 rfl (by rfl) ?_;refine zls ?_;refine xa2 7 rfl (by rfl) ?_;refine zls ?_;exact zrt xfu
 rw [if_neg e1];have e1:x.wait=false:=by cases hw:x.wait with|true=>exact absurd hw e1|false=>rfl
 have okm:=hpo;generalize hZ:putS p ⟨lay,mem,[x0,x1,x2,x3]⟩ t q x=Z at fp hpo okm⊢;obtain⟨g,b⟩:=Z;have okn2:g.thr.length=4:=okm.n;have okl2:g.mem.lines.length=4:=okm.mem.2.1;have hgl:g.lay=lay:=by rw [show g=(putS p ⟨lay,mem,[x0,x1,x2,x3]⟩ t q x).1 by rw [hZ]];exact ycs
 clear hZ okm hpo;cases b with
 |true=>
  rw [if_pos rfl];simp only [xd8,memV,xb5 (thrV false) okn2,xb5 (xf3 false) okl2];have hi:t=0∨t=1∨t=2∨t=3:=by omega
  rcases hi with rfl|rfl|rfl|rfl
  all_goals
   simp only [reqV,resV,hq,e1,List.getElem!_cons_zero,List.getElem!_cons_succ,List.set_cons_zero,List.set_cons_succ] at hst fq fr fp⊢;simp only [rowN,xbr,thrO,obM,rowC,List.getElem!_cons_zero,List.getElem!_cons_succ] at fc fp;refine Fnc.intro xfu (by simp) fun W S=>?_;simp only [ents,Nat.zero_add,Nat.reduceAdd,Qm,Qc,Ql,QL,Qf,Qs,Qb,Qk,QB,Qn,Qe,Qx,Qt,Qu,Q0,Q1,Qp,Qw,Qq,Qr,Qi];refine zso ?_;refine xao (fu:=fu8) xap [] 0 rfl (by kernel_rfl) ?_;simp only [go_sem];refine zsv ?_
   (first|refine xaj (fv) ?_|refine xaa (fv) ?_);refine zev ?_
   refine zsv ?_
   (first|refine xaj (fq) ?_|refine xaa (fq) ?_);refine zev ?_
   refine zsv ?_
   (first|refine xaj (fa) ?_|refine xaa (fa) ?_);refine zev ?_
   refine zsv ?_
   (first|refine xaj (fr) ?_|refine xaa (fr) ?_);refine zev ?_
   refine zsv ?_
   (first|refine xhg (fc) ?_|refine xe0 (fc) ?_);refine zev ?_
   refine zso ?_;refine xb7 5 rfl ?_;refine zls ?_;refine xb7 8 rfl ?_;refine zls ?_;refine xb7 9 rfl ?_;refine zls ?_;refine xb7 10 rfl ?_;refine zls ?_;refine xb7 11 rfl ?_;refine zls ?_;refine xb7 12 rfl ?_;refine zls ?_;refine xb7 13 rfl ?_;refine zls ?_;refine xb7 14 rfl ?_;refine zls ?_;refine xb7 15 rfl ?_;refine zls ?_;refine xqg false [0,1,2,3,4,5,6,7,8,9,10,11,12,13,14,15,16] [4,5,6,7,8,9,10,52,53,54] (by simp only [go_sem]) (by simp only [go_sem]) ?_;simp only [go_sem];refine xc2 16 [5,6,7,8,9,10,11,12,13,14,15] (fp) ?_;refine zev ?_;refine zst ?_;refine xa2 8 rfl (xa1 _ _) ?_;refine zls ?_;refine xa5 6 0 2 8 rfl rfl rfl rfl ?_;refine zls ?_;refine xa2 9 rfl (xa1 _ _) ?_;refine zls ?_;refine xa5 6 1 2 9 rfl rfl rfl rfl ?_;refine zls ?_;refine xa2 10 rfl (xa1 _ _) ?_;refine zls ?_;refine xa5 6 2 2 10 rfl rfl rfl rfl ?_;refine zls ?_;refine xa2 11 rfl (xa1 _ _) ?_;refine zls ?_;refine xa5 6 3 2 11 rfl rfl rfl rfl ?_;refine zls ?_;refine xa2 12 rfl (xa1 _ _) ?_;refine zls ?_;refine xa5 7 0 1 12 rfl rfl rfl rfl ?_;refine zls ?_;refine xa2 13 rfl (xa1 _ _) ?_;refine zls ?_;refine xa5 7 1 1 13 rfl rfl rfl rfl ?_;refine zls ?_;refine xa2 14 rfl (xa1 _ _) ?_;refine zls ?_;refine xa5 7 2 1 14 rfl rfl rfl rfl ?_;refine zls ?_;refine xa2 15 rfl (xa1 _ _) ?_;refine zls ?_;refine xa5 7 3 1 15 rfl rfl rfl rfl ?_;refine zls ?_;refine xa2 5 rfl (xa1 _ _) ?_;refine zls ?_;refine xa2 6 rfl (by rfl) ?_;refine zls ?_;refine xa2 7 rfl (by rfl) ?_;refine zls ?_;exact zrt xfu
 |false=>
  rw [if_neg (fun e:false=true=>by cases e)];have hi:t=0∨t=1∨t=2∨t=3:=by omega
  rcases hi with rfl|rfl|rfl|rfl
  all_goals
   simp only [reqV,resV,hq,e1,List.getElem!_cons_zero,List.getElem!_cons_succ,List.set_cons_zero,List.set_cons_succ] at hst fq fr fp⊢;simp only [rowN,xbr,thrO,obM,rowC,List.getElem!_cons_zero,List.getElem!_cons_succ] at fc fp;refine Fnc.intro xfu (by simp) fun W S=>?_;simp only [ents,Nat.zero_add,Nat.reduceAdd,Qm,Qc,Ql,QL,Qf,Qs,Qb,Qk,QB,Qn,Qe,Qx,Qt,Qu,Q0,Q1,Qp,Qw,Qq,Qr,Qi];refine zso ?_;refine xao (fu:=fu8) xap [] 0 rfl (by kernel_rfl) ?_;simp only [go_sem];refine zsv ?_
   (first|refine xaj (fv) ?_|refine xaa (fv) ?_);refine zev ?_
   refine zsv ?_
   (first|refine xaj (fq) ?_|refine xaa (fq) ?_);refine zev ?_
   refine zsv ?_
   (first|refine xaj (fa) ?_|refine xaa (fa) ?_);refine zev ?_
   refine zsv ?_
   (first|refine xaj (fr) ?_|refine xaa (fr) ?_);refine zev ?_
   refine zsv ?_
   (first|refine xhg (fc) ?_|refine xe0 (fc) ?_);refine zev ?_
   refine zso ?_;refine xb7 5 rfl ?_;refine zls ?_;refine xb7 8 rfl ?_;refine zls ?_;refine xb7 9 rfl ?_;refine zls ?_;refine xb7 10 rfl ?_;refine zls ?_;refine xb7 11 rfl ?_;refine zls ?_;refine xb7 12 rfl ?_;refine zls ?_;refine xb7 13 rfl ?_;refine zls ?_;refine xb7 14 rfl ?_;refine zls ?_;refine xb7 15 rfl ?_;refine zls ?_;refine xqg false [0,1,2,3,4,5,6,7,8,9,10,11,12,13,14,15,16] [4,5,6,7,8,9,10,52,53,54] (by simp only [go_sem]) (by simp only [go_sem]) ?_;simp only [go_sem];refine xc2 16 [5,6,7,8,9,10,11,12,13,14,15] (fp) ?_;refine zev ?_;refine zst ?_;exact zrt xfu
end Go.Proofs.YtbgpfigkcpmnfaaGreat
