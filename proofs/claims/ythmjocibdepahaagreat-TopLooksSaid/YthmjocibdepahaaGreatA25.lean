import Derived.Test.YthmjocibdepahaaGreatA24
set_option linter.defProp false
set_option linter.unusedSimpArgs false
set_option linter.unusedVariables false
set_option maxHeartbeats 64000000
set_option maxRecDepth 100000
namespace Go.Proofs.YthmjocibdepahaaGreat
open Go Go.RowKit Rdn Rdn.Dp
def lS:=zcs 195
theorem xdf {m:PMach} {t:Nat} {x:PThr} (_:m.thr[t]! =x) (h4:m.thr.length=4) (ht:t<4) (why:Int):FncI Tryz.prog 213 (iJ m) [.ptr 3 0 [t] (8*t),.int .i64 why] (fun y ob=>y=.int .i64 2∧ob=iJ (m.setT t (qH m.thr[t]! why))):=ywu m h4 t ht why
def yxv (a b:Nat):Prop:=∀(p:PProg) (m:PMach) (C:Int) (h:okMach p C m) (hC:C≤2199023255552) (t:Nat) (ht:t<4) (hd:t=a∨t=b),FncI Tryz.prog 195 (iJ m) [dM false p,.ptr 0 0 [] 0,.int .i64 t] (fun x ob=>x=.int .i64 (dL p m t).2∧ob=iJ (dL p m t).1)
theorem yxw {Q:Prop} (k:Q:=by
 intro p m C h hC t ht hd;obtain⟨x,hx⟩:∃x,m.thr[t]! =x:=⟨_,rfl⟩;obtain⟨hr,s0,s1,rl,pc0,pc1,cn0,cn1,hd0,hd1,sv0,sv1,tp0,tp1⟩:=mP h ht;rw [hx] at hr s0 s1 rl pc0 pc1 cn0 cn1 hd0 hd1 sv0 sv1 tp0 tp1;obtain⟨lay,mem,thr⟩:=m;obtain⟨hp,hl,hm,hn,-⟩:=h;obtain⟨t0,t1,t2,t3,rfl⟩:=gQ hn;dsimp only at hl hm;have hsz:=hp.sz;have hbl:=hl.2.1;have hcl:=hp.c2;rcases hd with rfl|rfl
 all_goals first|obtain rfl:x=t0:=hx.symm|obtain rfl:x=t1:=hx.symm|obtain rfl:x=t2:=hx.symm|obtain rfl:x=t3:=hx.symm
 all_goals
  by_cases hpc:x.pc<p.code.length;rotate_left
  ·have hpc':(p.code.length:Int)≤x.pc:=ω
   have hs:=yqi hx hpc';rw [hs];exact zo2 lS (xdf hx rfl δ 2)
  obtain⟨hi,hj,hlea⟩:=xg4 hp (k:=x.pc.toNat) ω;obtain⟨o0,o1,⟨a0,a1,-⟩,⟨b0,b1,-⟩,⟨c0,c1,-⟩,⟨d0,d1,-⟩,hjc,hlc,hsc⟩:=hi;have fb:=ygf p.code[x.pc.toNat]!.op;by_cases o:p.code[x.pc.toNat]!.op=0
  ·skip
   have hs:=yq7 hx rfl hpc o;have hb:¬kW p.code[x.pc.toNat]!.op:=by rw [o];decide
   rw [aJ hb] at fb;rw [xe7 hb] at hs;rw [hs];exact zJ lS fb
  by_cases o1:p.code[x.pc.toNat]!.op=1
  ·skip
   have hs:=yq8 hx rfl hpc o1;rw [uD,dU ω ω] at hs;have hb:¬kW p.code[x.pc.toNat]!.op:=by rw [o1];decide
   rw [aJ hb] at fb;rw [xe7 hb] at hs;rw [hs];exact zJ lS fb
  by_cases o2:p.code[x.pc.toNat]!.op=2
  ·skip
   have hs:=yqd hx rfl hpc o2;have hb:¬kW p.code[x.pc.toNat]!.op:=by rw [o2];decide
   rw [aJ hb] at fb;rw [xe7 hb] at hs;rw [hs];exact zJ lS fb
  by_cases o15:p.code[x.pc.toNat]!.op=15
  ·skip
   have hs:=yq9 hx rfl hpc o15;dsimp only at hs;have hlea:=hlea o15;have hla:=rG hl (k:=p.code[x.pc.toNat]!.imm.toNat) ω;rw [uD,dU ω ω] at hs;have hb:¬kW p.code[x.pc.toNat]!.op:=by rw [o15];decide
   rw [aJ hb] at fb;rw [xe7 hb] at hs;rw [hs];exact zJ lS fb
  by_cases o18:p.code[x.pc.toNat]!.op=18
  ·skip
   have hs:=yqc hx rfl hpc o18;have hb:kW p.code[x.pc.toNat]!.op:=by rw [o18];decide
   rw [aN hb] at fb;rw [xcy hb] at hs;rw [hs];exact zJ lS fb
  by_cases o19:p.code[x.pc.toNat]!.op=19
  ·skip
   have hs:=ybg hx rfl hpc (.inl o19);by_cases tg:x.regs[p.code[x.pc.toNat]!.a.toNat]!.tag=0;rotate_left
   ·rw [if_pos tg] at hs
    rw [hs];exact zo2 lS (xdf hx rfl δ 3)
   rw [if_neg (not_not_intro tg)] at hs;by_cases vz:x.regs[p.code[x.pc.toNat]!.a.toNat]!.val=0
   ·have hq:(if(x.regs[p.code[x.pc.toNat]!.a.toNat]!.val=0)=(p.code[x.pc.toNat]!.op=19) then p.code[x.pc.toNat]!.imm else x.pc+1)=p.code[x.pc.toNat]!.imm:=if_pos (propext ⟨fun _=>o19,fun _=>vz⟩)
    rw [hq] at hs;have hb:kW p.code[x.pc.toNat]!.op:=by rw [o19];decide
    rw [aN hb] at fb;rw [xcy hb] at hs;rw [hs];exact zJ lS fb
   ·have hq:(if(x.regs[p.code[x.pc.toNat]!.a.toNat]!.val=0)=(p.code[x.pc.toNat]!.op=19) then p.code[x.pc.toNat]!.imm else x.pc+1)=x.pc+1:=if_neg (fun e=>vz (e.mpr o19))
    rw [hq] at hs;have hb:kW p.code[x.pc.toNat]!.op:=by rw [o19];decide
    rw [aN hb] at fb;rw [xcy hb] at hs;rw [hs];exact zJ lS fb
  by_cases o20:p.code[x.pc.toNat]!.op=20
  ·skip
   have hs:=ybg hx rfl hpc (.inr o20);by_cases tg:x.regs[p.code[x.pc.toNat]!.a.toNat]!.tag=0;rotate_left
   ·rw [if_pos tg] at hs
    rw [hs];exact zo2 lS (xdf hx rfl δ 3)
   rw [if_neg (not_not_intro tg)] at hs;by_cases vz:x.regs[p.code[x.pc.toNat]!.a.toNat]!.val=0
   ·have hq:(if(x.regs[p.code[x.pc.toNat]!.a.toNat]!.val=0)=(p.code[x.pc.toNat]!.op=19) then p.code[x.pc.toNat]!.imm else x.pc+1)=x.pc+1:=if_neg (fun e=>by have h9:=e.mp vz;omega)
    rw [hq] at hs;have hb:kW p.code[x.pc.toNat]!.op:=by rw [o20];decide
    rw [aN hb] at fb;rw [xcy hb] at hs;rw [hs];exact zJ lS fb
   ·have hq:(if(x.regs[p.code[x.pc.toNat]!.a.toNat]!.val=0)=(p.code[x.pc.toNat]!.op=19) then p.code[x.pc.toNat]!.imm else x.pc+1)=p.code[x.pc.toNat]!.imm:=if_pos (propext ⟨fun h=>absurd h vz,fun h=>by omega⟩)
    rw [hq] at hs;have hb:kW p.code[x.pc.toNat]!.op:=by rw [o20];decide
    rw [aN hb] at fb;rw [xcy hb] at hs;rw [hs];exact zJ lS fb
  by_cases o21:p.code[x.pc.toNat]!.op=21
  ·skip
   have hs:=yqe hx rfl hpc o21;rw [uD,dU ω ω] at hs;have hb:kW p.code[x.pc.toNat]!.op:=by rw [o21];decide
   rw [aN hb] at fb;rw [xcy hb] at hs;rw [hs];exact zJ lS fb
  by_cases o22:p.code[x.pc.toNat]!.op=22
  ·skip
   have hs:=yqf hx rfl hpc o22;by_cases tg:x.regs[p.code[x.pc.toNat]!.a.toNat]!.tag=0;rotate_left
   ·rw [if_pos tg] at hs
    rw [hs];exact zo2 lS (xdf hx rfl δ 3)
   rw [if_neg (not_not_intro tg)] at hs;by_cases vz:x.regs[p.code[x.pc.toNat]!.a.toNat]!.val>255
   ·rw [if_pos vz] at hs
    rw [hs];exact zo2 lS (xdf hx rfl δ 2)
   rw [if_neg vz] at hs;have hv:=(mG hr (k:=p.code[x.pc.toNat]!.a.toNat) ω).2.2.1;have hb:kW p.code[x.pc.toNat]!.op:=by rw [o22];decide
   rw [aN hb] at fb;rw [xcy hb] at hs;rw [hs];exact zJ lS fb
  by_cases o24:p.code[x.pc.toNat]!.op=24
  ·skip
   have hs:=yqh hx rfl hpc o24;by_cases sv:x.saved=-1
   ·rw [if_pos sv] at hs
    rw [hs];exact zo2 lS (xdf hx rfl δ 1)
   rw [if_neg sv] at hs;have hb:kW p.code[x.pc.toNat]!.op:=by rw [o24];decide
   rw [aN hb] at fb;rw [xcy hb] at hs;rw [hs];exact zJ lS fb
  by_cases o23:p.code[x.pc.toNat]!.op=23
  ·skip
   have hs:=yqg hx rfl hpc o23;rw [hs];refine zpm ?_;refine dG lS fun W lent S=>?_;refine aA ?_;exact vX lS
  have hbc:=mG hr (k:=p.code[x.pc.toNat]!.b.toNat) ω;have hac:=mG hr (k:=p.code[x.pc.toNat]!.a.toNat) ω;have hcc:=mG hr (k:=p.code[x.pc.toNat]!.c.toNat) ω;by_cases o16:p.code[x.pc.toNat]!.op=16
  ·skip
   have hw:IntKind.u16.wrap p.code[x.pc.toNat]!.imm=p.code[x.pc.toNat]!.imm:=by rw [uD,dU ω ω]
   have fm:=xja lay p.sizes x.regs[p.code[x.pc.toNat]!.b.toNat]! p.code[x.pc.toNat]!.imm false hl hbc ⟨ω,ω⟩;have hv:=xr3 hl (p:=x.regs[p.code[x.pc.toNat]!.b.toNat]!) (n:=p.code[x.pc.toNat]!.imm) (back:=false);generalize hc:lD lay p.sizes x.regs[p.code[x.pc.toNat]!.b.toNat]! p.code[x.pc.toNat]!.imm false=c at fm hv;have hc2:lD lay p.sizes x.regs[p.code[x.pc.toNat]!.b.toNat]! (IntKind.u16.wrap p.code[x.pc.toNat]!.imm) false=c:=by rw [hw];exact hc
   have hs:=yqa hx rfl hpc o16 hc2;by_cases cz:c.2=0;rotate_left
   ·rw [if_pos cz] at hs
    rw [hs];exact zo3 lS fm (xdf hx rfl δ c.2)
   rw [if_neg (not_not_intro cz)] at hs;rw [cz] at fm;obtain⟨-,v0,v1⟩:=hv cz;have hb:¬kW p.code[x.pc.toNat]!.op:=by rw [o16];decide
   rw [aJ hb] at fb;rw [xe7 hb] at hs;have fl:=fun u=>yhk lay mem hm c.1.val v0 v1 u;rw [hs];refine zpm ?_;refine dG lS fun W lent S=>?_;refine aA ?_;refine aF (fm) ?_;refine xic (xl3 0 [1,2,4,5,6,7] 3 0 2 (lB:=[dQ false lay,.agg [.own 1 0,.own 2 0],.junk]) (x:=bC (xbh mem c.1.val).2) (obB:=xrd (xbh mem c.1.val).1) fl rfl rfl ξ rfl rfl rfl (fun u=>by simp only [go_sem]) (fun u=>by simp only [go_sem]) χ χ χ χ rfl (fun u=>by simp only [go_sem]) χ) ξ rfl ?_;simp only [go_sem];refine aA ?_;refine aF (fb) ?_;refine dS true [0,1,2,3,4,5,6,7,8,9,10,11] [6] χ χ ?_;simp only [go_sem];exact vX lS
  by_cases o17:p.code[x.pc.toNat]!.op=17
  ·skip
   have hw:IntKind.u16.wrap p.code[x.pc.toNat]!.imm=p.code[x.pc.toNat]!.imm:=by rw [uD,dU ω ω]
   have fm:=xja lay p.sizes x.regs[p.code[x.pc.toNat]!.a.toNat]! p.code[x.pc.toNat]!.imm false hl hac ⟨ω,ω⟩;have hv:=xr3 hl (p:=x.regs[p.code[x.pc.toNat]!.a.toNat]!) (n:=p.code[x.pc.toNat]!.imm) (back:=false);generalize hc:lD lay p.sizes x.regs[p.code[x.pc.toNat]!.a.toNat]! p.code[x.pc.toNat]!.imm false=c at fm hv;have hc2:lD lay p.sizes x.regs[p.code[x.pc.toNat]!.a.toNat]! (IntKind.u16.wrap p.code[x.pc.toNat]!.imm) false=c:=by rw [hw];exact hc
   have hs:=yqb hx rfl hpc o17 hc2;by_cases cz:c.2=0;rotate_left
   ·rw [if_pos cz] at hs
    rw [hs];exact zo3 lS fm (xdf hx rfl δ c.2)
   rw [if_neg (not_not_intro cz)] at hs;rw [cz] at fm;obtain⟨-,v0,v1⟩:=hv cz;have hb:¬kW p.code[x.pc.toNat]!.op:=by rw [o17];decide
   rw [aJ hb] at fb;rw [xe7 hb] at hs;have fl:=fun u=>xv1 lay mem hm c.1.val v0 v1 x.regs[p.code[x.pc.toNat]!.b.toNat]! u;rw [hs];refine zpm ?_;refine dG lS fun W lent S=>?_;refine aA ?_;refine aF (fm) ?_;refine xic (xl3 0 [1,2,4,5,6,7] 3 0 2 (lB:=[dQ false lay,.agg [.own 1 0,.own 2 0],.junk]) (x:=.tup []) (obB:=xrd (xcf mem c.1.val x.regs[p.code[x.pc.toNat]!.b.toNat]!)) fl rfl rfl ξ rfl rfl rfl (fun u=>by simp only [go_sem]) (fun u=>by simp only [go_sem]) χ χ χ χ rfl (fun u=>by simp only [go_sem]) χ) ξ rfl ?_;simp only [go_sem];refine aA ?_;refine aF (fb) ?_;refine dS true [0,1,2,3,4,5,6,7,8,9,10,11] [6] χ χ ?_;simp only [go_sem];exact vX lS
  have oa:3≤p.code[x.pc.toNat]!.op∧p.code[x.pc.toNat]!.op≤14:=ω;have fa:=yfx lay p.sizes p.code[x.pc.toNat]!.op x.regs[p.code[x.pc.toNat]!.b.toNat]! x.regs[p.code[x.pc.toNat]!.c.toNat]! hl hbc hcc oa;generalize hc:cO lay p.sizes p.code[x.pc.toNat]!.op x.regs[p.code[x.pc.toNat]!.b.toNat]! x.regs[p.code[x.pc.toNat]!.c.toNat]! =c at fa;have hs:=yq4 hx rfl hpc oa hc;by_cases cz:c.2=0;rotate_left
  ·rw [if_pos cz] at hs
   rw [hs];exact zo3 lS fa (xdf hx rfl δ c.2)
  rw [if_neg (not_not_intro cz)] at hs;rw [cz] at fa;have hb:¬kW p.code[x.pc.toNat]!.op:=by unfold kW eF;omega
  rw [aJ hb] at fb;rw [xe7 hb] at hs;rw [hs];refine zpm ?_;refine dG lS fun W lent S=>?_;refine aA ?_;refine jC fa fb ?_;refine gZ 12 lS ?_;(first|(simp only [go_sem];done)|(simp only [go_sem];((try dsimp only);(repeat' (refine And.intro ?_ ?_))<;>first|with_reducible rfl|(simp only [go_sem];done)|(simp only [go_sem];rfl)|(simp only [go_sem,List.map_set];done)|(simp only [List.map_set];(try simp only [go_sem]);first|done|rfl)|(simp only [go_sem];simp [List.map_set];done)|(simp [List.map_set];done)|rfl)))):Q:=k
theorem yxx:yxv 0 1:=yxw
end Go.Proofs.YthmjocibdepahaaGreat
