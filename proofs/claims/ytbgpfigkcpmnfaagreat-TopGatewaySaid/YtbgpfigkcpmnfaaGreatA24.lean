import Derived.Test.YtbgpfigkcpmnfaaGreatA20
import Derived.Test.YtbgpfigkcpmnfaaGreatA6
import Derived.Test.YtbgpfigkcpmnfaaGreatA10
set_option linter.unusedSimpArgs false
set_option linter.unusedVariables false
set_option maxHeartbeats 64000000
set_option maxRecDepth 100000
namespace Go.Proofs.YtbgpfigkcpmnfaaGreat
open Go Go.RowKit Rdn Rdn.Dp
theorem yh4 (p:PProg) (m:PMach) (C:Int) (h:okMach p C m) (hC:C≤2199023255552):FncI Tryz.prog 101 (obM m) [xbn false p,.ptr 0 0 [] 0,.int .i64 3] (fun x ob=>x=.int .i64 (sOne p m 3).2∧ob=obM (sOne p m 3).1):=by
 obtain⟨lay,mem,thr⟩:=m;obtain⟨hp,hl,hm,hn,ht⟩:=h;obtain⟨t0,t1,t2,t3,rfl⟩:=four hn;dsimp only at hl hm ht;have hx:=ht t3 (by simp);obtain⟨hr,s0,s1,rl,pc0,pc1,cn0,cn1,hd0,hd1,sv0,sv1,tp0,tp1⟩:=hx;have hsz:=hp.sz;have hbl:=hl.2.1;have hcl:=hp.c2;by_cases hpc:t3.pc<p.code.length;rotate_left
 ·have hpc':(p.code.length:Int)≤t3.pc:=by omega
  have hs:=xur (p:=p) (m:=⟨lay,mem,[t0,t1,t2,t3]⟩) (t:=3) hpc';simp only [List.getElem!_cons_zero,List.getElem!_cons_succ] at hs;rw [hs];exact zo2 xa3 (xbj ⟨lay,mem,[t0,t1,t2,t3]⟩ rfl 3 (by decide) 2)
 obtain⟨hi,hj,hlea⟩:=xhj hp (k:=t3.pc.toNat) (by omega);obtain⟨o0,o1,⟨a0,a1,-⟩,⟨b0,b1,-⟩,⟨c0,c1,-⟩,⟨d0,d1,-⟩,hjc,hlc,hsc⟩:=hi;have fb:=xtt p.code[t3.pc.toNat]!.op;by_cases o:p.code[t3.pc.toNat]!.op=0
 ·skip
  have hs:=xp5 (p:=p) (m:=⟨lay,mem,[t0,t1,t2,t3]⟩) (t:=3) hpc o;simp only [List.getElem!_cons_zero,List.getElem!_cons_succ] at hs;have hb:¬xab p.code[t3.pc.toNat]!.op:=by rw [o];decide
  rw [decF hb] at fb;rw [xbe hb] at hs;rw [hs];exact zo1 xa3 fb
 by_cases o1:p.code[t3.pc.toNat]!.op=1
 ·skip
  have hs:=xp6 (p:=p) (m:=⟨lay,mem,[t0,t1,t2,t3]⟩) (t:=3) hpc o1;simp only [List.getElem!_cons_zero,List.getElem!_cons_succ] at hs;rw [xbs,xbv (by omega) (by omega)] at hs;have hb:¬xab p.code[t3.pc.toNat]!.op:=by rw [o1];decide
  rw [decF hb] at fb;rw [xbe hb] at hs;rw [hs];exact zo1 xa3 fb
 by_cases o2:p.code[t3.pc.toNat]!.op=2
 ·skip
  have hs:=xp7 (p:=p) (m:=⟨lay,mem,[t0,t1,t2,t3]⟩) (t:=3) hpc o2;simp only [List.getElem!_cons_zero,List.getElem!_cons_succ] at hs;have hb:¬xab p.code[t3.pc.toNat]!.op:=by rw [o2];decide
  rw [decF hb] at fb;rw [xbe hb] at hs;rw [hs];exact zo1 xa3 fb
 by_cases o15:p.code[t3.pc.toNat]!.op=15
 ·skip
  have hs:=xle (p:=p) (m:=⟨lay,mem,[t0,t1,t2,t3]⟩) (t:=3) hpc o15;simp only [List.getElem!_cons_zero,List.getElem!_cons_succ] at hs;have hlea:=hlea o15;have hla:=xfs hl (k:=p.code[t3.pc.toNat]!.imm.toNat) (by omega);rw [xbs,xbv (by omega) (by omega)] at hs;have hb:¬xab p.code[t3.pc.toNat]!.op:=by rw [o15];decide
  rw [decF hb] at fb;rw [xbe hb] at hs;rw [hs];exact zo1 xa3 fb
 by_cases o18:p.code[t3.pc.toNat]!.op=18
 ·skip
  have hs:=xlh (p:=p) (m:=⟨lay,mem,[t0,t1,t2,t3]⟩) (t:=3) hpc o18;simp only [List.getElem!_cons_zero,List.getElem!_cons_succ] at hs;have hb:xab p.code[t3.pc.toNat]!.op:=by rw [o18];decide
  rw [decT hb] at fb;rw [xb9 hb] at hs;rw [hs];exact zo1 xa3 fb
 by_cases o19:p.code[t3.pc.toNat]!.op=19
 ·skip
  have hs:=xfw (p:=p) (m:=⟨lay,mem,[t0,t1,t2,t3]⟩) (t:=3) hpc (.inl o19);simp only [List.getElem!_cons_zero,List.getElem!_cons_succ] at hs;by_cases tg:t3.regs[p.code[t3.pc.toNat]!.a.toNat]!.tag=0;rotate_left
  ·rw [if_pos tg] at hs
   rw [hs];exact zo2 xa3 (xbj ⟨lay,mem,[t0,t1,t2,t3]⟩ rfl 3 (by decide) 3)
  rw [if_neg (not_not_intro tg)] at hs;by_cases vz:t3.regs[p.code[t3.pc.toNat]!.a.toNat]!.val=0
  ·have hq:(if(t3.regs[p.code[t3.pc.toNat]!.a.toNat]!.val=0)=(p.code[t3.pc.toNat]!.op=19) then p.code[t3.pc.toNat]!.imm else t3.pc+1)=p.code[t3.pc.toNat]!.imm:=if_pos (propext ⟨fun _=>o19,fun _=>vz⟩)
   rw [hq] at hs;have hb:xab p.code[t3.pc.toNat]!.op:=by rw [o19];decide
   rw [decT hb] at fb;rw [xb9 hb] at hs;rw [hs];exact zo1 xa3 fb
  ·have hq:(if(t3.regs[p.code[t3.pc.toNat]!.a.toNat]!.val=0)=(p.code[t3.pc.toNat]!.op=19) then p.code[t3.pc.toNat]!.imm else t3.pc+1)=t3.pc+1:=if_neg (fun e=>vz (e.mpr o19))
   rw [hq] at hs;have hb:xab p.code[t3.pc.toNat]!.op:=by rw [o19];decide
   rw [decT hb] at fb;rw [xb9 hb] at hs;rw [hs];exact zo1 xa3 fb
 by_cases o20:p.code[t3.pc.toNat]!.op=20
 ·skip
  have hs:=xfw (p:=p) (m:=⟨lay,mem,[t0,t1,t2,t3]⟩) (t:=3) hpc (.inr o20);simp only [List.getElem!_cons_zero,List.getElem!_cons_succ] at hs;by_cases tg:t3.regs[p.code[t3.pc.toNat]!.a.toNat]!.tag=0;rotate_left
  ·rw [if_pos tg] at hs
   rw [hs];exact zo2 xa3 (xbj ⟨lay,mem,[t0,t1,t2,t3]⟩ rfl 3 (by decide) 3)
  rw [if_neg (not_not_intro tg)] at hs;by_cases vz:t3.regs[p.code[t3.pc.toNat]!.a.toNat]!.val=0
  ·have hq:(if(t3.regs[p.code[t3.pc.toNat]!.a.toNat]!.val=0)=(p.code[t3.pc.toNat]!.op=19) then p.code[t3.pc.toNat]!.imm else t3.pc+1)=t3.pc+1:=if_neg (fun e=>by have h9:=e.mp vz;omega)
   rw [hq] at hs;have hb:xab p.code[t3.pc.toNat]!.op:=by rw [o20];decide
   rw [decT hb] at fb;rw [xb9 hb] at hs;rw [hs];exact zo1 xa3 fb
  ·have hq:(if(t3.regs[p.code[t3.pc.toNat]!.a.toNat]!.val=0)=(p.code[t3.pc.toNat]!.op=19) then p.code[t3.pc.toNat]!.imm else t3.pc+1)=p.code[t3.pc.toNat]!.imm:=if_pos (propext ⟨fun h=>absurd h vz,fun h=>by omega⟩)
   rw [hq] at hs;have hb:xab p.code[t3.pc.toNat]!.op:=by rw [o20];decide
   rw [decT hb] at fb;rw [xb9 hb] at hs;rw [hs];exact zo1 xa3 fb
 by_cases o21:p.code[t3.pc.toNat]!.op=21
 ·skip
  have hs:=xli (p:=p) (m:=⟨lay,mem,[t0,t1,t2,t3]⟩) (t:=3) hpc o21;simp only [List.getElem!_cons_zero,List.getElem!_cons_succ] at hs;rw [xbs,xbv (by omega) (by omega)] at hs;have hb:xab p.code[t3.pc.toNat]!.op:=by rw [o21];decide
  rw [decT hb] at fb;rw [xb9 hb] at hs;rw [hs];exact zo1 xa3 fb
 by_cases o22:p.code[t3.pc.toNat]!.op=22
 ·skip
  have hs:=xlj (p:=p) (m:=⟨lay,mem,[t0,t1,t2,t3]⟩) (t:=3) hpc o22;simp only [List.getElem!_cons_zero,List.getElem!_cons_succ] at hs;by_cases tg:t3.regs[p.code[t3.pc.toNat]!.a.toNat]!.tag=0;rotate_left
  ·rw [if_pos tg] at hs
   rw [hs];exact zo2 xa3 (xbj ⟨lay,mem,[t0,t1,t2,t3]⟩ rfl 3 (by decide) 3)
  rw [if_neg (not_not_intro tg)] at hs;by_cases vz:t3.regs[p.code[t3.pc.toNat]!.a.toNat]!.val>255
  ·rw [if_pos vz] at hs
   rw [hs];exact zo2 xa3 (xbj ⟨lay,mem,[t0,t1,t2,t3]⟩ rfl 3 (by decide) 2)
  rw [if_neg vz] at hs;have hv:=(xb3 hr (k:=p.code[t3.pc.toNat]!.a.toNat) (by omega)).2.2.1;have hb:xab p.code[t3.pc.toNat]!.op:=by rw [o22];decide
  rw [decT hb] at fb;rw [xb9 hb] at hs;rw [hs];exact zo1 xa3 fb
 by_cases o24:p.code[t3.pc.toNat]!.op=24
 ·skip
  have hs:=xll (p:=p) (m:=⟨lay,mem,[t0,t1,t2,t3]⟩) (t:=3) hpc o24;simp only [List.getElem!_cons_zero,List.getElem!_cons_succ] at hs;by_cases sv:t3.saved=-1
  ·rw [if_pos sv] at hs
   rw [hs];exact zo2 xa3 (xbj ⟨lay,mem,[t0,t1,t2,t3]⟩ rfl 3 (by decide) 1)
  rw [if_neg sv] at hs;have hb:xab p.code[t3.pc.toNat]!.op:=by rw [o24];decide
  rw [decT hb] at fb;rw [xb9 hb] at hs;rw [hs];exact zo1 xa3 fb
 by_cases o23:p.code[t3.pc.toNat]!.op=23
 ·skip
  have hs:=xlk (p:=p) (m:=⟨lay,mem,[t0,t1,t2,t3]⟩) (t:=3) hpc o23;simp only [List.getElem!_cons_zero,List.getElem!_cons_succ] at hs;rw [hs];refine zpm ?_;refine zqi xa3 fun W lent S=>?_;refine zst ?_;exact zri xa3
 have hbc:=xb3 hr (k:=p.code[t3.pc.toNat]!.b.toNat) (by omega);have hac:=xb3 hr (k:=p.code[t3.pc.toNat]!.a.toNat) (by omega);have hcc:=xb3 hr (k:=p.code[t3.pc.toNat]!.c.toNat) (by omega);by_cases o16:p.code[t3.pc.toNat]!.op=16
 ·skip
  have hw:IntKind.u16.wrap p.code[t3.pc.toNat]!.imm=p.code[t3.pc.toNat]!.imm:=by rw [xbs,xbv (by omega) (by omega)]
  have fm:=xhm lay p.sizes t3.regs[p.code[t3.pc.toNat]!.b.toNat]! p.code[t3.pc.toNat]!.imm false hl hbc ⟨by omega,by omega⟩;have hv:=xh1 hl (p:=t3.regs[p.code[t3.pc.toNat]!.b.toNat]!) (n:=p.code[t3.pc.toNat]!.imm) (back:=false);generalize hc:xc4 lay p.sizes t3.regs[p.code[t3.pc.toNat]!.b.toNat]! p.code[t3.pc.toNat]!.imm false=c at fm hv;have hc2:xc4 lay p.sizes t3.regs[p.code[t3.pc.toNat]!.b.toNat]! (IntKind.u16.wrap p.code[t3.pc.toNat]!.imm) false=c:=by rw [hw];exact hc
  have hs:=xlf (p:=p) (m:=⟨lay,mem,[t0,t1,t2,t3]⟩) (t:=3) hpc o16 hc2;simp only [List.getElem!_cons_zero,List.getElem!_cons_succ] at hs;by_cases cz:c.2=0;rotate_left
  ·rw [if_pos cz] at hs
   rw [hs];refine zpm ?_;have ft:=xbj ⟨lay,mem,[t0,t1,t2,t3]⟩ rfl 3 (by decide) (c.2);have ft:=zpt ft;refine zqi xa3 fun W lent S=>?_;refine zst ?_;refine zcd (fm) ?_;refine xc2 0 [1,2,3,4,5,6,7,8,9,10,11] (ft) ?_;refine zev ?_;refine zst ?_;refine xa7 true [0,1,2,3,4,5,6,7,8,9,10,11] [6] (by simp only [go_sem]) (by simp only [go_sem]) ?_;simp only [go_sem];exact zri xa3
  rw [if_neg (not_not_intro cz)] at hs;rw [cz] at fm;obtain⟨-,v0,v1⟩:=hv cz;have hb:¬xab p.code[t3.pc.toNat]!.op:=by rw [o16];decide
  rw [decF hb] at fb;rw [xbe hb] at hs;have fl:=fun u=>xu0 lay mem hm c.1.val v0 v1 u;rw [hs];refine zpm ?_;refine zqi xa3 fun W lent S=>?_;refine zst ?_;refine zcd (fm) ?_;refine xga (xc8 0 [1,2,4,5,6,7] 3 0 2 (lB:=[layV false lay,.agg [.own 1 0,.own 2 0],.junk]) (x:=xau (xhs mem c.1.val).2) (obB:=obFt (xhs mem c.1.val).1) fl rfl rfl (by simp) rfl rfl rfl (fun u=>by simp only [go_sem]) (fun u=>by simp only [go_sem]) (by simp only [go_sem]) (by simp only [go_sem]) (by simp only [go_sem]) (by simp only [go_sem]) rfl (fun u=>by simp only [go_sem]) (by simp only [go_sem])) (by simp) rfl ?_;simp only [go_sem];refine zst ?_;refine zcd (fb) ?_;refine xa7 true [0,1,2,3,4,5,6,7,8,9,10,11] [6] (by simp only [go_sem]) (by simp only [go_sem]) ?_;simp only [go_sem];exact zri xa3
 by_cases o17:p.code[t3.pc.toNat]!.op=17
 ·skip
  have hw:IntKind.u16.wrap p.code[t3.pc.toNat]!.imm=p.code[t3.pc.toNat]!.imm:=by rw [xbs,xbv (by omega) (by omega)]
  have fm:=xhm lay p.sizes t3.regs[p.code[t3.pc.toNat]!.a.toNat]! p.code[t3.pc.toNat]!.imm false hl hac ⟨by omega,by omega⟩;have hv:=xh1 hl (p:=t3.regs[p.code[t3.pc.toNat]!.a.toNat]!) (n:=p.code[t3.pc.toNat]!.imm) (back:=false);generalize hc:xc4 lay p.sizes t3.regs[p.code[t3.pc.toNat]!.a.toNat]! p.code[t3.pc.toNat]!.imm false=c at fm hv;have hc2:xc4 lay p.sizes t3.regs[p.code[t3.pc.toNat]!.a.toNat]! (IntKind.u16.wrap p.code[t3.pc.toNat]!.imm) false=c:=by rw [hw];exact hc
  have hs:=xlg (p:=p) (m:=⟨lay,mem,[t0,t1,t2,t3]⟩) (t:=3) hpc o17 hc2;simp only [List.getElem!_cons_zero,List.getElem!_cons_succ] at hs;by_cases cz:c.2=0;rotate_left
  ·rw [if_pos cz] at hs
   rw [hs];refine zpm ?_;have ft:=xbj ⟨lay,mem,[t0,t1,t2,t3]⟩ rfl 3 (by decide) (c.2);have ft:=zpt ft;refine zqi xa3 fun W lent S=>?_;refine zst ?_;refine zcd (fm) ?_;refine xc2 0 [1,2,3,4,5,6,7,8,9,10,11] (ft) ?_;refine zev ?_;refine zst ?_;refine xa7 true [0,1,2,3,4,5,6,7,8,9,10,11] [6] (by simp only [go_sem]) (by simp only [go_sem]) ?_;simp only [go_sem];exact zri xa3
  rw [if_neg (not_not_intro cz)] at hs;rw [cz] at fm;obtain⟨-,v0,v1⟩:=hv cz;have hb:¬xab p.code[t3.pc.toNat]!.op:=by rw [o17];decide
  rw [decF hb] at fb;rw [xbe hb] at hs;have fl:=fun u=>xkt lay mem hm c.1.val v0 v1 t3.regs[p.code[t3.pc.toNat]!.b.toNat]! u;rw [hs];refine zpm ?_;refine zqi xa3 fun W lent S=>?_;refine zst ?_;refine zcd (fm) ?_;refine xga (xc8 0 [1,2,4,5,6,7] 3 0 2 (lB:=[layV false lay,.agg [.own 1 0,.own 2 0],.junk]) (x:=.tup []) (obB:=obFt (xf1 mem c.1.val t3.regs[p.code[t3.pc.toNat]!.b.toNat]!)) fl rfl rfl (by simp) rfl rfl rfl (fun u=>by simp only [go_sem]) (fun u=>by simp only [go_sem]) (by simp only [go_sem]) (by simp only [go_sem]) (by simp only [go_sem]) (by simp only [go_sem]) rfl (fun u=>by simp only [go_sem]) (by simp only [go_sem])) (by simp) rfl ?_;simp only [go_sem];refine zst ?_;refine zcd (fb) ?_;refine xa7 true [0,1,2,3,4,5,6,7,8,9,10,11] [6] (by simp only [go_sem]) (by simp only [go_sem]) ?_;simp only [go_sem];exact zri xa3
 have oa:3≤p.code[t3.pc.toNat]!.op∧p.code[t3.pc.toNat]!.op≤14:=by omega
 have fa:=xts lay p.sizes p.code[t3.pc.toNat]!.op t3.regs[p.code[t3.pc.toNat]!.b.toNat]! t3.regs[p.code[t3.pc.toNat]!.c.toNat]! hl hbc hcc oa;generalize hc:aluS lay p.sizes p.code[t3.pc.toNat]!.op t3.regs[p.code[t3.pc.toNat]!.b.toNat]! t3.regs[p.code[t3.pc.toNat]!.c.toNat]! =c at fa;have hs:=xp4 (p:=p) (m:=⟨lay,mem,[t0,t1,t2,t3]⟩) (t:=3) hpc oa hc;simp only [List.getElem!_cons_zero,List.getElem!_cons_succ] at hs;by_cases cz:c.2=0;rotate_left
 ·rw [if_pos cz] at hs
  rw [hs];refine zpm ?_;have ft:=xbj ⟨lay,mem,[t0,t1,t2,t3]⟩ rfl 3 (by decide) (c.2);have ft:=zpt ft;refine zqi xa3 fun W lent S=>?_;refine zst ?_;refine zcd (fa) ?_;refine xc2 0 [1,2,3,4,5,6,7,8,9,10,11] (ft) ?_;refine zev ?_;refine zst ?_;refine xa7 true [0,1,2,3,4,5,6,7,8,9,10,11] [6] (by simp only [go_sem]) (by simp only [go_sem]) ?_;simp only [go_sem];exact zri xa3
 rw [if_neg (not_not_intro cz)] at hs;rw [cz] at fa;have hb:¬xab p.code[t3.pc.toNat]!.op:=by unfold xab xbm;omega
 rw [decF hb] at fb;rw [xbe hb] at hs;rw [hs];refine zpm ?_;refine zqi xa3 fun W lent S=>?_;refine zst ?_;refine zcd (fa) ?_;refine zcd (fb) ?_;exact zri xa3
end Go.Proofs.YtbgpfigkcpmnfaaGreat
