import Derived.Test.YtbgpfigkcpmnfaaGreatA8
import Derived.Test.YtbgpfigkcpmnfaaGreatA38
import Derived.Test.YtbgpfigkcpmnfaaGreatA6
set_option linter.unusedSimpArgs false
set_option linter.unusedVariables false
set_option maxHeartbeats 64000000
set_option maxRecDepth 100000
namespace Go.Proofs.YtbgpfigkcpmnfaaGreat
open Go Go.RowKit Rdn Rdn.Dp
abbrev runV (r:PRn):V:=.agg [xbn false r.prog,xd8 false r.mach,xct r.out,xcf false r.locks,.sl false 18 (r.record.map entV),.sl false 1 (i64s r.joins)]
theorem yj7 (r:PRn) (h1:r.record.length≤1000000) (h2:r.joins.length=4):Fnc Tryz.prog 51 [runV r] (fun x obs=>x=.agg [xbn false r.prog,xd8 false r.mach,xct r.out,xcf false r.locks,.own 0 0,.own 1 0]∧obs=[⟨.row 102,true,0,.arr 18 (r.record.map entV)⟩,⟨.row 3,true,0,.arr 1 (i64s r.joins)⟩]):=by
 refine zcf Tryz.prog 51 fun mz=>?_;refine zgo mz fun W S=>?_;refine retN mz [3,2] ?_;exact zfn
theorem xlz (t:Int):SubV (.agg [.int .i64 3,.int .i64 t,.int .i64 0,.agg [.int .i64 0,.int .i64 0,.int .i64 0,.int .i64 0,.int .i64 0,.int .i64 0,.nilS,.nilS],.agg [.agg [.int .u8 0,.int .u16 0,.int .i64 0,.int .i64 0],.nilS,.int .i64 0,.bool false]]) (entV (sigE t)):=SubV.agg ⟨SubV.refl _,SubV.refl _,SubV.refl _,SubV.agg ⟨SubV.refl _,SubV.refl _,SubV.refl _,SubV.refl _,SubV.refl _,SubV.refl _,SubV.nil _ _,SubV.nil _ _,trivial⟩,SubV.agg ⟨SubV.refl _,SubV.nil _ _,SubV.refl _,SubV.refl _,trivial⟩,trivial⟩
theorem xdc (t n:Int) (q:Request):SubV (.agg [.int .i64 1,.int .i64 t,.int .i64 n,reqV q,.agg [.agg [.int .u8 0,.int .u16 0,.int .i64 0,.int .i64 0],.nilS,.int .i64 0,.bool false]]) (entV (slcE t n q)):=SubV.agg ⟨SubV.refl _,SubV.refl _,SubV.refl _,SubV.refl _,SubV.agg ⟨SubV.refl _,SubV.nil _ _,SubV.refl _,SubV.refl _,trivial⟩,trivial⟩
theorem xbp {l:List PEntry} {e:PEntry} {x:V} (h:SubV x (entV e)):SubVs (l.map entV++[x]) ((l++[e]).map entV):=by rw [List.map_append];exact xe8 h
structure Hd (p:Prop):Prop where
 h:p
abbrev runZ:V:=.agg [.agg [.nilS,.nilS,.nilS],.agg [.agg [.nilS,.int .u16 0],.agg [.nilS,.nilS],.nilS],.agg [.nilS,.nilS,.nilS,.agg [.nilS,.nilS],.nilS],.agg [.nilS,.nilS],.nilS,.nilS]
theorem ykl (C:Int) (hC0:0≤C) (hC:C+64≤1099511627776) (r:PRn) (h:okRun C r) (ho:rngO r.out) (hl:r.record.length≤400000) (c:PChoice):Fnc Tryz.prog 20 [runV r,xoe c] (fun x obs=>x=.tup [if xnm r=0 then runV (xtk r c) else runZ,.int .i64 (xnm r)]∧obs=[]):=by
 refine zcf Tryz.prog 20 fun mz=>?_;refine Fnc.low ?_;have fr:=ykx r.mach.thr h.mach.n;unfold xnm;have hln:(rdyR r).length≤4:=xuz _ _;have hT:=fun e=>xsz (r:=r) e c;unfold xtk nxtT at *;generalize hrd:rdyR r=rd at hln hT⊢;rw [show rdyS r.mach.thr 4=rd from hrd] at fr;clear hrd;by_cases l0:rd.length=0
 ·rw [if_pos l0,if_neg (by decide)]
  refine zgo mz fun W S=>?_;refine zcd (fr) ?_;exact zrt mz
 rw [if_neg l0];by_cases l1:r.record.length>192
 ·rw [if_pos l1,if_neg (by decide)]
  refine zgo mz fun W S=>?_;refine zcd (fr) ?_;exact zrt mz
 rw [if_neg l1,if_pos rfl];have fm1:=xta c.thread rd.length (by omega);have fm2:=xta c.branches 64 (by decide);have hm0:=Int.emod_nonneg c.thread (show(rd.length:Int)≠0 by omega);have hm1:=Int.emod_lt_of_pos c.thread (show(0:Int)<rd.length by omega);have hT:=hT l0;have fc:=yj7 r (by omega) h.jl;obtain⟨T,hTe⟩:∃T:Nat,rd[(c.thread % rd.length).toNat]! =T:=⟨_,(Int.toNat_of_nonneg hT.1).symm⟩;rw [hTe] at hT⊢;have hT4:T<4:=by omega
 have hn:=h.mach.n;have fcan:=xty r.mach hn T hT4;rw [Int.toNat_natCast] at hT;unfold nx1;rw [Int.toNat_natCast];have hnr:=xke c;by_cases hsig:c.signal=true∧xod r.mach T
 ·skip
  rw [if_pos hsig];rw [decT hsig.2] at fcan;have hc1:=hsig.1;have fd:=yja r.prog r.mach h.mach T hT4 hsig.2;have k1:=yab h hT.1 hT.2.1 (by rw [Int.toNat_natCast];exact hsig.2);have ks:(sigS r.mach T).thr[T]!.state=1:=by rw [yac (by omega)];exact hT.2.2
  have kl1:(sigR r T).record.length≤193:=by show(r.record++[_]).length≤_;rw [List.length_append,List.length_singleton];omega
  have ho1:rngO (sigR r T).out:=ho;have kt:=xnf k1.mach (t:=T) hT4 hnr.1 (by omega);have ft:=yf6 r.prog (sigS r.mach T) (k1.mach.up (by omega)) T hT4 (nxtN c) hnr ks;have k2:=(xpo k1 hT.1 hT.2.1 hnr.1 (by omega)).le (show C+nxtN c≤C+64 by omega);have kl2:(slcR (sigR r T) T (nxtN c)).record.length≤194:=by show((sigR r T).record++[_]).length≤_;rw [List.length_append,List.length_singleton];omega
  have ho2:rngO (slcR (sigR r T) T (nxtN c)).out:=ho;unfold xz6;simp only [slcR,sigR,Int.toNat_natCast] at kt k2 kl2 ho2⊢;generalize xhw r.prog (sigS r.mach T) T (nxtN c)=Z at ft kt k2 kl2 ho2⊢;obtain⟨g,q⟩:=Z;dsimp only at ft kt k2 kl2 ho2⊢;obtain⟨-,hqt,-,hq⟩:=kt;unfold nxtN at ft hnr k2 kl2⊢;by_cases st:q.stop=1
  ·obtain⟨hq1,hq2⟩:=hq st
   have hok:=xm7 (by omega) k2 hq1 (xlo k2 ho2 hq1);have fcall:FncI Tryz.prog 55 (obR (⟨r.prog,g,r.out,r.locks,(r.record++[sigE T])++[slcE T (1+c.branches % 64) q],r.joins⟩:PRn)) [.ptr 0 0 [] 0,reqV q] (fun x o=>x=.tup []∧o=obR (callR (⟨r.prog,g,r.out,r.locks,(r.record++[sigE T])++[slcE T (1+c.branches % 64) q],r.joins⟩:PRn) q)):=(xm8 (C+64) (by omega) (by omega) (⟨r.prog,g,r.out,r.locks,(r.record++[sigE T])++[slcE T (1+c.branches % 64) q],r.joins⟩:PRn) k2 q ⟨hq1,by rw [hqt,Int.toNat_natCast];exact hq2⟩ (Nat.le_trans kl2 (by decide))).mono fun x o e=>⟨e.1,e.2.1⟩;have hcl:=xj3 (⟨r.prog,g,r.out,r.locks,(r.record++[sigE T])++[slcE T (1+c.branches % 64) q],r.joins⟩:PRn) q;rw [show nx3 (⟨r.prog,g,r.out,r.locks,(r.record++[sigE T])++[slcE T (1+c.branches % 64) q],r.joins⟩:PRn) q=callR (⟨r.prog,g,r.out,r.locks,(r.record++[sigE T])++[slcE T (1+c.branches % 64) q],r.joins⟩:PRn) q from if_pos st];generalize callR (⟨r.prog,g,r.out,r.locks,(r.record++[sigE T])++[slcE T (1+c.branches % 64) q],r.joins⟩:PRn) q=r3 at fcall hok hcl⊢;dsimp only at hcl;have sth:Hd (q.stop=1):=⟨st⟩;clear st;clear hq;have hn3:=hok.mach.n;have fe:=xi3 (C+64) (by omega) r3 hok T hT4 (by omega);unfold nx4;rw [Int.toNat_natCast];by_cases en:r3.mach.thr[T]!.state=4
   ·rw [if_pos en]
    generalize endR r3 T=r4 at fe⊢;refine zgo mz fun W S=>?_;refine zcd (fr) ?_;refine zcd (fm1) ?_;refine zsx hTe ?_;refine zcd (fm2) ?_
    (first|refine xhg (fc) ?_|refine xe0 (fc) ?_);refine zev ?_
    refine xax ?_;refine xa8 3 rfl ?_;refine zls ?_;refine xa8 4 rfl ?_;refine zls ?_;refine zsx hc1 ?_;refine zcd (fcan) ?_;refine zcd (fd) ?_;refine xfd 3 ((r.record++[sigE T]).map entV) rfl (by rw [List.map_append];exact xe8 (xlz _)) (xaz (f:=entV) (s:=18) (fun _=>rfl) _) ?_;refine zls ?_
    (first|refine xaj (ft) ?_|refine xaa (ft) ?_);refine zev ?_
    refine zst ?_;refine xa7 false [2,3,4,5,8] [4,7,9,11,87] (by simp only [go_sem]) (by simp only [go_sem]) ?_;simp only [go_sem];refine xbd 1 (((r.record++[sigE T])++[slcE T (1+c.branches % 64) q]).map entV) rfl (xbp (xdc _ _ _)) (xaz (f:=entV) (s:=18) (fun _=>rfl) _) ?_;refine zls ?_;have st:=sth.h;refine zst ?_;refine xc2 3 [1,2] (fcall) ?_;refine zev ?_;refine zst ?_;refine xc2 3 [1,2] (fe) ?_;refine zev ?_;refine zst ?_;refine xa2 1 rfl (xa1 _ _) ?_;refine zls ?_;refine xa2 2 rfl (xa1 _ _) ?_;refine zls ?_;exact zrt mz
   ·rw [if_neg en]
    refine zgo mz fun W S=>?_;refine zcd (fr) ?_;refine zcd (fm1) ?_;refine zsx hTe ?_;refine zcd (fm2) ?_
    (first|refine xhg (fc) ?_|refine xe0 (fc) ?_);refine zev ?_
    refine xax ?_;refine xa8 3 rfl ?_;refine zls ?_;refine xa8 4 rfl ?_;refine zls ?_;refine zsx hc1 ?_;refine zcd (fcan) ?_;refine zcd (fd) ?_;refine xfd 3 ((r.record++[sigE T]).map entV) rfl (by rw [List.map_append];exact xe8 (xlz _)) (xaz (f:=entV) (s:=18) (fun _=>rfl) _) ?_;refine zls ?_
    (first|refine xaj (ft) ?_|refine xaa (ft) ?_);refine zev ?_
    refine zst ?_;refine xa7 false [2,3,4,5,8] [4,7,9,11,87] (by simp only [go_sem]) (by simp only [go_sem]) ?_;simp only [go_sem];refine xbd 1 (((r.record++[sigE T])++[slcE T (1+c.branches % 64) q]).map entV) rfl (xbp (xdc _ _ _)) (xaz (f:=entV) (s:=18) (fun _=>rfl) _) ?_;refine zls ?_;have st:=sth.h;refine zst ?_;refine xc2 3 [1,2] (fcall) ?_;refine zev ?_;refine zst ?_;refine xa2 1 rfl (xa1 _ _) ?_;refine zls ?_;refine xa2 2 rfl (xa1 _ _) ?_;refine zls ?_;exact zrt mz
  rw [show nx3 (⟨r.prog,g,r.out,r.locks,(r.record++[sigE T])++[slcE T (1+c.branches % 64) q],r.joins⟩:PRn) q=(⟨r.prog,g,r.out,r.locks,(r.record++[sigE T])++[slcE T (1+c.branches % 64) q],r.joins⟩:PRn) from if_neg st];have sth:Hd (¬q.stop=1):=⟨st⟩;clear st;clear hq;have hn3:=k2.mach.n;dsimp only at hn3;have fe:=xi3 (C+64) (by omega) (⟨r.prog,g,r.out,r.locks,(r.record++[sigE T])++[slcE T (1+c.branches % 64) q],r.joins⟩:PRn) k2 T hT4 (Nat.le_trans kl2 (by decide));unfold nx4;rw [Int.toNat_natCast];dsimp only;by_cases en:g.thr[T]!.state=4
  ·rw [if_pos en]
   generalize endR (⟨r.prog,g,r.out,r.locks,(r.record++[sigE T])++[slcE T (1+c.branches % 64) q],r.joins⟩:PRn) T=r4 at fe⊢;refine zgo mz fun W S=>?_;refine zcd (fr) ?_;refine zcd (fm1) ?_;refine zsx hTe ?_;refine zcd (fm2) ?_
   (first|refine xhg (fc) ?_|refine xe0 (fc) ?_);refine zev ?_
   refine xax ?_;refine xa8 3 rfl ?_;refine zls ?_;refine xa8 4 rfl ?_;refine zls ?_;refine zsx hc1 ?_;refine zcd (fcan) ?_;refine zcd (fd) ?_;refine xfd 3 ((r.record++[sigE T]).map entV) rfl (by rw [List.map_append];exact xe8 (xlz _)) (xaz (f:=entV) (s:=18) (fun _=>rfl) _) ?_;refine zls ?_
   (first|refine xaj (ft) ?_|refine xaa (ft) ?_);refine zev ?_
   refine zst ?_;refine xa7 false [2,3,4,5,8] [4,7,9,11,87] (by simp only [go_sem]) (by simp only [go_sem]) ?_;simp only [go_sem];refine xbd 1 (((r.record++[sigE T])++[slcE T (1+c.branches % 64) q]).map entV) rfl (xbp (xdc _ _ _)) (xaz (f:=entV) (s:=18) (fun _=>rfl) _) ?_;refine zls ?_;have st:=sth.h;refine zst ?_;refine xc2 3 [1,2] (fe) ?_;refine zev ?_;refine zst ?_;refine xa2 1 rfl (xa1 _ _) ?_;refine zls ?_;refine xa2 2 rfl (xa1 _ _) ?_;refine zls ?_;exact zrt mz
  ·rw [if_neg en]
   refine zgo mz fun W S=>?_;refine zcd (fr) ?_;refine zcd (fm1) ?_;refine zsx hTe ?_;refine zcd (fm2) ?_
   (first|refine xhg (fc) ?_|refine xe0 (fc) ?_);refine zev ?_
   refine xax ?_;refine xa8 3 rfl ?_;refine zls ?_;refine xa8 4 rfl ?_;refine zls ?_;refine zsx hc1 ?_;refine zcd (fcan) ?_;refine zcd (fd) ?_;refine xfd 3 ((r.record++[sigE T]).map entV) rfl (by rw [List.map_append];exact xe8 (xlz _)) (xaz (f:=entV) (s:=18) (fun _=>rfl) _) ?_;refine zls ?_
   (first|refine xaj (ft) ?_|refine xaa (ft) ?_);refine zev ?_
   refine zst ?_;refine xa7 false [2,3,4,5,8] [4,7,9,11,87] (by simp only [go_sem]) (by simp only [go_sem]) ?_;simp only [go_sem];refine xbd 1 (((r.record++[sigE T])++[slcE T (1+c.branches % 64) q]).map entV) rfl (xbp (xdc _ _ _)) (xaz (f:=entV) (s:=18) (fun _=>rfl) _) ?_;refine zls ?_;have st:=sth.h;refine zst ?_;refine xa2 1 rfl (xa1 _ _) ?_;refine zls ?_;refine xa2 2 rfl (xa1 _ _) ?_;refine zls ?_;exact zrt mz
 rw [if_neg hsig];have k1:=h;have ks:=hT.2.2;have kl1:r.record.length≤193:=by omega
 have ho1:rngO r.out:=ho;have kt:=xnf k1.mach (t:=T) hT4 hnr.1 (by omega);have ft:=yf6 r.prog r.mach (k1.mach.up (by omega)) T hT4 (nxtN c) hnr ks;have k2:=(xpo k1 hT.1 hT.2.1 hnr.1 (by omega)).le (show C+nxtN c≤C+64 by omega);have kl2:(slcR r T (nxtN c)).record.length≤194:=by show(r.record++[_]).length≤_;rw [List.length_append,List.length_singleton];omega
 have ho2:rngO (slcR r T (nxtN c)).out:=ho;unfold xz6;simp only [slcR,sigR,Int.toNat_natCast] at kt k2 kl2 ho2⊢;generalize xhw r.prog r.mach T (nxtN c)=Z at ft kt k2 kl2 ho2⊢;obtain⟨g,q⟩:=Z;dsimp only at ft kt k2 kl2 ho2⊢;obtain⟨-,hqt,-,hq⟩:=kt;unfold nxtN at ft hnr k2 kl2⊢;have hcases:c.signal=false∨(c.signal=true∧¬xod r.mach T):=by cases hcs:c.signal with|false=>exact .inl rfl|true=>exact .inr ⟨rfl,fun e=>hsig ⟨hcs,e⟩⟩
 rcases hcases with hc1|⟨hc1,hc2⟩
 rotate_left
 ·rw [decF hc2] at fcan
  by_cases st:q.stop=1
  ·obtain⟨hq1,hq2⟩:=hq st
   have hok:=xm7 (by omega) k2 hq1 (xlo k2 ho2 hq1);have fcall:FncI Tryz.prog 55 (obR (⟨r.prog,g,r.out,r.locks,r.record++[slcE T (1+c.branches % 64) q],r.joins⟩:PRn)) [.ptr 0 0 [] 0,reqV q] (fun x o=>x=.tup []∧o=obR (callR (⟨r.prog,g,r.out,r.locks,r.record++[slcE T (1+c.branches % 64) q],r.joins⟩:PRn) q)):=(xm8 (C+64) (by omega) (by omega) (⟨r.prog,g,r.out,r.locks,r.record++[slcE T (1+c.branches % 64) q],r.joins⟩:PRn) k2 q ⟨hq1,by rw [hqt,Int.toNat_natCast];exact hq2⟩ (Nat.le_trans kl2 (by decide))).mono fun x o e=>⟨e.1,e.2.1⟩;have hcl:=xj3 (⟨r.prog,g,r.out,r.locks,r.record++[slcE T (1+c.branches % 64) q],r.joins⟩:PRn) q;rw [show nx3 (⟨r.prog,g,r.out,r.locks,r.record++[slcE T (1+c.branches % 64) q],r.joins⟩:PRn) q=callR (⟨r.prog,g,r.out,r.locks,r.record++[slcE T (1+c.branches % 64) q],r.joins⟩:PRn) q from if_pos st];generalize callR (⟨r.prog,g,r.out,r.locks,r.record++[slcE T (1+c.branches % 64) q],r.joins⟩:PRn) q=r3 at fcall hok hcl⊢;dsimp only at hcl;have sth:Hd (q.stop=1):=⟨st⟩;clear st;clear hq;have hn3:=hok.mach.n;have fe:=xi3 (C+64) (by omega) r3 hok T hT4 (by omega);unfold nx4;rw [Int.toNat_natCast];by_cases en:r3.mach.thr[T]!.state=4
   ·rw [if_pos en]
    generalize endR r3 T=r4 at fe⊢;refine zgo mz fun W S=>?_;refine zcd (fr) ?_;refine zcd (fm1) ?_;refine zsx hTe ?_;refine zcd (fm2) ?_
    (first|refine xhg (fc) ?_|refine xe0 (fc) ?_);refine zev ?_
    refine xax ?_;refine xa8 3 rfl ?_;refine zls ?_;refine xa8 4 rfl ?_;refine zls ?_;refine zsx hc1 ?_;refine zcd (fcan) ?_
    (first|refine xaj (ft) ?_|refine xaa (ft) ?_);refine zev ?_
    refine zst ?_;refine xa7 false [2,3,4,5,7] [4,7,9,11,87] (by simp only [go_sem]) (by simp only [go_sem]) ?_;simp only [go_sem];refine xbd 1 ((r.record++[slcE T (1+c.branches % 64) q]).map entV) rfl (xbp (xdc _ _ _)) (xaz (f:=entV) (s:=18) (fun _=>rfl) _) ?_;refine zls ?_;have st:=sth.h;refine zst ?_;refine xc2 3 [1,2] (fcall) ?_;refine zev ?_;refine zst ?_;refine xc2 3 [1,2] (fe) ?_;refine zev ?_;refine zst ?_;refine xa2 1 rfl (xa1 _ _) ?_;refine zls ?_;refine xa2 2 rfl (xa1 _ _) ?_;refine zls ?_;exact zrt mz
   ·rw [if_neg en]
    refine zgo mz fun W S=>?_;refine zcd (fr) ?_;refine zcd (fm1) ?_;refine zsx hTe ?_;refine zcd (fm2) ?_
    (first|refine xhg (fc) ?_|refine xe0 (fc) ?_);refine zev ?_
    refine xax ?_;refine xa8 3 rfl ?_;refine zls ?_;refine xa8 4 rfl ?_;refine zls ?_;refine zsx hc1 ?_;refine zcd (fcan) ?_
    (first|refine xaj (ft) ?_|refine xaa (ft) ?_);refine zev ?_
    refine zst ?_;refine xa7 false [2,3,4,5,7] [4,7,9,11,87] (by simp only [go_sem]) (by simp only [go_sem]) ?_;simp only [go_sem];refine xbd 1 ((r.record++[slcE T (1+c.branches % 64) q]).map entV) rfl (xbp (xdc _ _ _)) (xaz (f:=entV) (s:=18) (fun _=>rfl) _) ?_;refine zls ?_;have st:=sth.h;refine zst ?_;refine xc2 3 [1,2] (fcall) ?_;refine zev ?_;refine zst ?_;refine xa2 1 rfl (xa1 _ _) ?_;refine zls ?_;refine xa2 2 rfl (xa1 _ _) ?_;refine zls ?_;exact zrt mz
  rw [show nx3 (⟨r.prog,g,r.out,r.locks,r.record++[slcE T (1+c.branches % 64) q],r.joins⟩:PRn) q=(⟨r.prog,g,r.out,r.locks,r.record++[slcE T (1+c.branches % 64) q],r.joins⟩:PRn) from if_neg st];have sth:Hd (¬q.stop=1):=⟨st⟩;clear st;clear hq;have hn3:=k2.mach.n;dsimp only at hn3;have fe:=xi3 (C+64) (by omega) (⟨r.prog,g,r.out,r.locks,r.record++[slcE T (1+c.branches % 64) q],r.joins⟩:PRn) k2 T hT4 (Nat.le_trans kl2 (by decide));unfold nx4;rw [Int.toNat_natCast];dsimp only;by_cases en:g.thr[T]!.state=4
  ·rw [if_pos en]
   generalize endR (⟨r.prog,g,r.out,r.locks,r.record++[slcE T (1+c.branches % 64) q],r.joins⟩:PRn) T=r4 at fe⊢;refine zgo mz fun W S=>?_;refine zcd (fr) ?_;refine zcd (fm1) ?_;refine zsx hTe ?_;refine zcd (fm2) ?_
   (first|refine xhg (fc) ?_|refine xe0 (fc) ?_);refine zev ?_
   refine xax ?_;refine xa8 3 rfl ?_;refine zls ?_;refine xa8 4 rfl ?_;refine zls ?_;refine zsx hc1 ?_;refine zcd (fcan) ?_
   (first|refine xaj (ft) ?_|refine xaa (ft) ?_);refine zev ?_
   refine zst ?_;refine xa7 false [2,3,4,5,7] [4,7,9,11,87] (by simp only [go_sem]) (by simp only [go_sem]) ?_;simp only [go_sem];refine xbd 1 ((r.record++[slcE T (1+c.branches % 64) q]).map entV) rfl (xbp (xdc _ _ _)) (xaz (f:=entV) (s:=18) (fun _=>rfl) _) ?_;refine zls ?_;have st:=sth.h;refine zst ?_;refine xc2 3 [1,2] (fe) ?_;refine zev ?_;refine zst ?_;refine xa2 1 rfl (xa1 _ _) ?_;refine zls ?_;refine xa2 2 rfl (xa1 _ _) ?_;refine zls ?_;exact zrt mz
  ·rw [if_neg en]
   refine zgo mz fun W S=>?_;refine zcd (fr) ?_;refine zcd (fm1) ?_;refine zsx hTe ?_;refine zcd (fm2) ?_
   (first|refine xhg (fc) ?_|refine xe0 (fc) ?_);refine zev ?_
   refine xax ?_;refine xa8 3 rfl ?_;refine zls ?_;refine xa8 4 rfl ?_;refine zls ?_;refine zsx hc1 ?_;refine zcd (fcan) ?_
   (first|refine xaj (ft) ?_|refine xaa (ft) ?_);refine zev ?_
   refine zst ?_;refine xa7 false [2,3,4,5,7] [4,7,9,11,87] (by simp only [go_sem]) (by simp only [go_sem]) ?_;simp only [go_sem];refine xbd 1 ((r.record++[slcE T (1+c.branches % 64) q]).map entV) rfl (xbp (xdc _ _ _)) (xaz (f:=entV) (s:=18) (fun _=>rfl) _) ?_;refine zls ?_;have st:=sth.h;refine zst ?_;refine xa2 1 rfl (xa1 _ _) ?_;refine zls ?_;refine xa2 2 rfl (xa1 _ _) ?_;refine zls ?_;exact zrt mz
 by_cases st:q.stop=1
 ·obtain⟨hq1,hq2⟩:=hq st
  have hok:=xm7 (by omega) k2 hq1 (xlo k2 ho2 hq1);have fcall:FncI Tryz.prog 55 (obR (⟨r.prog,g,r.out,r.locks,r.record++[slcE T (1+c.branches % 64) q],r.joins⟩:PRn)) [.ptr 0 0 [] 0,reqV q] (fun x o=>x=.tup []∧o=obR (callR (⟨r.prog,g,r.out,r.locks,r.record++[slcE T (1+c.branches % 64) q],r.joins⟩:PRn) q)):=(xm8 (C+64) (by omega) (by omega) (⟨r.prog,g,r.out,r.locks,r.record++[slcE T (1+c.branches % 64) q],r.joins⟩:PRn) k2 q ⟨hq1,by rw [hqt,Int.toNat_natCast];exact hq2⟩ (Nat.le_trans kl2 (by decide))).mono fun x o e=>⟨e.1,e.2.1⟩;have hcl:=xj3 (⟨r.prog,g,r.out,r.locks,r.record++[slcE T (1+c.branches % 64) q],r.joins⟩:PRn) q;rw [show nx3 (⟨r.prog,g,r.out,r.locks,r.record++[slcE T (1+c.branches % 64) q],r.joins⟩:PRn) q=callR (⟨r.prog,g,r.out,r.locks,r.record++[slcE T (1+c.branches % 64) q],r.joins⟩:PRn) q from if_pos st];generalize callR (⟨r.prog,g,r.out,r.locks,r.record++[slcE T (1+c.branches % 64) q],r.joins⟩:PRn) q=r3 at fcall hok hcl⊢;dsimp only at hcl;have sth:Hd (q.stop=1):=⟨st⟩;clear st;clear hq;have hn3:=hok.mach.n;have fe:=xi3 (C+64) (by omega) r3 hok T hT4 (by omega);unfold nx4;rw [Int.toNat_natCast];by_cases en:r3.mach.thr[T]!.state=4
  ·rw [if_pos en]
   generalize endR r3 T=r4 at fe⊢;refine zgo mz fun W S=>?_;refine zcd (fr) ?_;refine zcd (fm1) ?_;refine zsx hTe ?_;refine zcd (fm2) ?_
   (first|refine xhg (fc) ?_|refine xe0 (fc) ?_);refine zev ?_
   refine xax ?_;refine xa8 3 rfl ?_;refine zls ?_;refine xa8 4 rfl ?_;refine zls ?_;refine zsx hc1 ?_
   (first|refine xaj (ft) ?_|refine xaa (ft) ?_);refine zev ?_
   refine zst ?_;refine xa7 false [2,3,4,5,7] [4,7,9,11,87] (by simp only [go_sem]) (by simp only [go_sem]) ?_;simp only [go_sem];refine xbd 1 ((r.record++[slcE T (1+c.branches % 64) q]).map entV) rfl (xbp (xdc _ _ _)) (xaz (f:=entV) (s:=18) (fun _=>rfl) _) ?_;refine zls ?_;have st:=sth.h;refine zst ?_;refine xc2 3 [1,2] (fcall) ?_;refine zev ?_;refine zst ?_;refine xc2 3 [1,2] (fe) ?_;refine zev ?_;refine zst ?_;refine xa2 1 rfl (xa1 _ _) ?_;refine zls ?_;refine xa2 2 rfl (xa1 _ _) ?_;refine zls ?_;exact zrt mz
  ·rw [if_neg en]
   refine zgo mz fun W S=>?_;refine zcd (fr) ?_;refine zcd (fm1) ?_;refine zsx hTe ?_;refine zcd (fm2) ?_
   (first|refine xhg (fc) ?_|refine xe0 (fc) ?_);refine zev ?_
   refine xax ?_;refine xa8 3 rfl ?_;refine zls ?_;refine xa8 4 rfl ?_;refine zls ?_;refine zsx hc1 ?_
   (first|refine xaj (ft) ?_|refine xaa (ft) ?_);refine zev ?_
   refine zst ?_;refine xa7 false [2,3,4,5,7] [4,7,9,11,87] (by simp only [go_sem]) (by simp only [go_sem]) ?_;simp only [go_sem];refine xbd 1 ((r.record++[slcE T (1+c.branches % 64) q]).map entV) rfl (xbp (xdc _ _ _)) (xaz (f:=entV) (s:=18) (fun _=>rfl) _) ?_;refine zls ?_;have st:=sth.h;refine zst ?_;refine xc2 3 [1,2] (fcall) ?_;refine zev ?_;refine zst ?_;refine xa2 1 rfl (xa1 _ _) ?_;refine zls ?_;refine xa2 2 rfl (xa1 _ _) ?_;refine zls ?_;exact zrt mz
 rw [show nx3 (⟨r.prog,g,r.out,r.locks,r.record++[slcE T (1+c.branches % 64) q],r.joins⟩:PRn) q=(⟨r.prog,g,r.out,r.locks,r.record++[slcE T (1+c.branches % 64) q],r.joins⟩:PRn) from if_neg st];have sth:Hd (¬q.stop=1):=⟨st⟩;clear st;clear hq;have hn3:=k2.mach.n;dsimp only at hn3;have fe:=xi3 (C+64) (by omega) (⟨r.prog,g,r.out,r.locks,r.record++[slcE T (1+c.branches % 64) q],r.joins⟩:PRn) k2 T hT4 (Nat.le_trans kl2 (by decide));unfold nx4;rw [Int.toNat_natCast];dsimp only;by_cases en:g.thr[T]!.state=4
 ·rw [if_pos en]
  generalize endR (⟨r.prog,g,r.out,r.locks,r.record++[slcE T (1+c.branches % 64) q],r.joins⟩:PRn) T=r4 at fe⊢;refine zgo mz fun W S=>?_;refine zcd (fr) ?_;refine zcd (fm1) ?_;refine zsx hTe ?_;refine zcd (fm2) ?_
  (first|refine xhg (fc) ?_|refine xe0 (fc) ?_);refine zev ?_
  refine xax ?_;refine xa8 3 rfl ?_;refine zls ?_;refine xa8 4 rfl ?_;refine zls ?_;refine zsx hc1 ?_
  (first|refine xaj (ft) ?_|refine xaa (ft) ?_);refine zev ?_
  refine zst ?_;refine xa7 false [2,3,4,5,7] [4,7,9,11,87] (by simp only [go_sem]) (by simp only [go_sem]) ?_;simp only [go_sem];refine xbd 1 ((r.record++[slcE T (1+c.branches % 64) q]).map entV) rfl (xbp (xdc _ _ _)) (xaz (f:=entV) (s:=18) (fun _=>rfl) _) ?_;refine zls ?_;have st:=sth.h;refine zst ?_;refine xc2 3 [1,2] (fe) ?_;refine zev ?_;refine zst ?_;refine xa2 1 rfl (xa1 _ _) ?_;refine zls ?_;refine xa2 2 rfl (xa1 _ _) ?_;refine zls ?_;exact zrt mz
 ·rw [if_neg en]
  refine zgo mz fun W S=>?_;refine zcd (fr) ?_;refine zcd (fm1) ?_;refine zsx hTe ?_;refine zcd (fm2) ?_
  (first|refine xhg (fc) ?_|refine xe0 (fc) ?_);refine zev ?_
  refine xax ?_;refine xa8 3 rfl ?_;refine zls ?_;refine xa8 4 rfl ?_;refine zls ?_;refine zsx hc1 ?_
  (first|refine xaj (ft) ?_|refine xaa (ft) ?_);refine zev ?_
  refine zst ?_;refine xa7 false [2,3,4,5,7] [4,7,9,11,87] (by simp only [go_sem]) (by simp only [go_sem]) ?_;simp only [go_sem];refine xbd 1 ((r.record++[slcE T (1+c.branches % 64) q]).map entV) rfl (xbp (xdc _ _ _)) (xaz (f:=entV) (s:=18) (fun _=>rfl) _) ?_;refine zls ?_;have st:=sth.h;refine zst ?_;refine xa2 1 rfl (xa1 _ _) ?_;refine zls ?_;refine xa2 2 rfl (xa1 _ _) ?_;refine zls ?_;exact zrt mz
end Go.Proofs.YtbgpfigkcpmnfaaGreat
