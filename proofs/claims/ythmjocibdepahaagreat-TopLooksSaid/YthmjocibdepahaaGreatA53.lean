import Derived.Test.YthmjocibdepahaaGreatA49
import Derived.Test.YthmjocibdepahaaGreatA50
import Derived.Test.YthmjocibdepahaaGreatA26
import Derived.Test.YthmjocibdepahaaGreatReads
set_option linter.defProp false
set_option linter.unusedSimpArgs false
set_option linter.unusedVariables false
set_option maxHeartbeats 64000000
set_option maxRecDepth 100000
namespace Go.Proofs.YthmjocibdepahaaGreat
open Go Go.RowKit Rdn Rdn.Dp
def xm3:=zcs 3
theorem xsq {s:State} (h:okState s):Tp.shp s=true:=by
 rw [Tp.shp_eq s h.n4 (by have:=h.len;omega),Bool.not_eq_true',List.any_eq_false];intro x hx;have:=h.reg x hx;simp only [Tp.badL,Tp.badZ,decide_eq_true_eq];omega
theorem yc2 {s:State} (h:okState s):∀n,n≤s.regions.length→Tp.psum s n≤4*n
 |0,_=>Nat.le_refl _
 |n+1,hn=>by
  have h1:=yc2 h n ω;have h2:=(h.reg _ (dJ (show n<s.regions.length by omega))).2.1;simp only [Tp.psum,Tp.pcn];omega
theorem xvc {s:State} (h:okState s):1≤(Tp.dls s).length∧(Tp.dls s).length≤20∧(Tp.dls s).length=(Tp.pgs s).length:=by
 have h1:=Tp.dls_len s;have h2:=Tp.pgs_len s;have h3:=yc2 h _ (Nat.le_refl _);have h4:=h.len;have h5:=h.n4;omega
theorem xlf {s:State} (h:okState s):Tp.LowS s:=⟨by have:=h.n4;omega,fun x hx=>by have:=h.reg x hx;omega,by have:=h.len;omega,fun x hx=>by have:=(h.thr x hx).len;omega⟩
theorem yr8 {z:List Int} {a b:State} (ha:Fm z a) (hb:Fm z b):(Tp.pgs a).length=(Tp.pgs b).length:=by
 have e:Tp.szs a=Tp.szs b:=by
  have h1:=ha.rl;have h2:=hb.rl;unfold Tp.szs;refine List.ext_getElem (by simp [h1,h2]) fun i hi _=>?_;rw [List.length_map] at hi;have k1:=ha.len i ω;have k2:=hb.len i ω;rw [getElem!_pos _ i hi] at k1;rw [getElem!_pos _ i ω] at k2;simp only [List.getElem_map];omega
 unfold Tp.pgs;rw [e,ha.ok.len,hb.ok.len,List.length_map,List.length_map]
theorem ye8 {s:State} (h:okState s):(stB s).length≤1000000000:=by
 have h1:=xs2 (l:=s.regions) fun x hx=>(h.reg x hx).2.1;have h2:=yfb (l:=s.threads) fun x hx=>(h.thr x hx).len;have h3:=h.n4;have h4:=h.len;simp only [stB,List.length_cons,List.length_append];omega
theorem ydg {s:State} (h:okState s):Tp.sAll s=(Tp.pgs s,0):=if_pos (xsq h)
theorem yiv {a b:State} {i:Nat} (h:i<(Tp.pgs a).length) (h2:i<(Tp.pgs b).length) (e:(Tp.dls a)[i]!≠(Tp.dls b)[i]!):decide ((Tp.pgs a)[i]! =(Tp.pgs b)[i]!)=false:=by
 refine decide_eq_false fun q=>e ?_;unfold Tp.dls;rw [getElem!_pos _ i (by simpa using h),getElem!_pos _ i (by simpa using h2),List.getElem_map,List.getElem_map];rw [getElem!_pos _ i h,getElem!_pos _ i h2] at q;rw [q]
theorem ywl (l:List Int):Fnc Tryz.prog 3 [.sl false 1 (bH l)] (fun x obs=>x=.bool true):=by
 refine Fnc.low ?_;have ff:=yl8 l;have fw:=yg8;by_cases h1:l.length≤400;rotate_left
 ·rw [aJ h1] at ff
  exact zG2 xm3 ff fw
 rw [aN h1] at ff;refine iR xm3 ff fun W S=>?_;refine dD (ypd l) ?_;refine xfr (yoq l 0 (Nat.zero_le _)) rfl τ rfl φ φ φ (by first|rfl|(simp only [go_sem];done)|(simp only [go_sem];rfl)) fun x obs d hR=>?_;obtain⟨p,m,k,⟨hm,hc⟩,hk,rfl,rfl,rfl⟩:=hR;simp only [V.shift,V.shifts,xfp,List.map_nil,List.append_nil,List.set_cons_zero];have ft:=yir l k hk;obtain⟨o,ho,fp⟩:=yg2 p m hm (flt l k) (yll l k);refine aA ?_;refine aO (ft) ?_;refine bZ (fp) ?_;refine qL ?_;refine xi8 39 fun hw=>?_;have hc2:∀y∈o.thr,0≤y.code∧y.code≤65535:=by
  simp only [aV,Nat.reduceEqDiff,if_false,if_true,eG,V.wf,V.wfs,lW] at hw;exact fun y hy=>xbu (hw.2.2.1.1 y hy).2.2.2.2.2.2.2.1
 have ha:=xsy hm hc;have hb:=xsy ho hc2;have fs1:=ycd p m _ hm;have fs2:=ycd p o _ ho;have e1:∀m,zH p m m.thr.length=(uZ p m).threads:=fun m=>by simp [zH,uZ]
 have e2:∀m,jX p m p.sizes.length=(uZ p m).regions:=fun _=>rfl;rw [e1,e2] at fs1 fs2;generalize uZ p m=a at fs1 ha;generalize uZ p o=b at fs2 hb;clear hw hc hc2 e1 e2 ft fp;refine aA ?_;refine jC fs1 fs2 ?_;have A:=ha.ok;have B:=hb.ok;obtain⟨a1,a2,a3⟩:=xvc A;obtain⟨b1,b2,b3⟩:=xvc B;have hlen:=yr8 ha hb;have f1:=Tp.tof_fr a (xlf A) (xsq A) a1 a2;have f2:=Tp.tof_fr b (xlf B) (xsq B) b1 b2;have f3:=yix (Tp.dls a) (Tp.dls b) a1 a2 ω;have f4:=Tp.pall_fn a (xlf A);have f5:=Tp.pall_fn b (xlf B);rw [ydg A] at f4;rw [ydg B] at f5;have hI:=yjj (m:=Tp.dls b) a1 a2;have hne:∀i∈xcn (Tp.dls a) (Tp.dls b),decide ((Tp.pgs a)[i]! =(Tp.pgs b)[i]!)=false:=fun i hi=>yiv (by have:=hI.2 i hi;omega) (by have:=hI.2 i hi;omega) (yjl hi);have f8:=ycw (iG (Tp.dls a));have f9:=ycw (iG (Tp.dls b));generalize xcn (Tp.dls a) (Tp.dls b)=I at f3 hI hne;generalize xg7 (Tp.dls a) (Tp.dls b)=nd at f3;refine zC5 f1 f2 f3 f4 f5 ?_;refine dS false [4,5,6,7] [7,8,9,11,13,16,18,20] χ χ ?_;simp only [go_sem];have hI20:=hI.len;have hpa:((Tp.pgs a).map (Tp.pgV false)).length=(Tp.pgs a).length:=List.length_map ..;refine bI [7,8,9,11,13,16,18] (fun q:{q:Nat // q≤I.length}=>[(20,.int .i64 q.1)]) (fun q=>[⟨.box false 50,true,0,qG a⟩,⟨.box false 50,true,0,qG b⟩,⟨.box false 54,true,0,zF (iG (Tp.dls a))⟩,⟨.box false 54,true,0,zF (iG (Tp.dls b))⟩]) (fun q=>I.length-q.1) (⟨0,by simp⟩) 4 ?_;intro J hJ
 rintro⟨j,hj⟩
 by_cases hlt:j<I.length
 ·have hij:=hI.2 _ (dJ hlt)
  have hn:=hne _ (dJ hlt);have hk2:(nI I)[j]! =(I[j]!:Int):=by unfold nI;rw [getElem!_pos _ j (by simpa using hlt),List.getElem_map,getElem!_pos I j hlt]
  have hnl:(nI I).length=I.length:=by simp [nI]
  have fe:=Tp.pequal_fn (Tp.pgs a)[I[j]!]! (Tp.pgs b)[I[j]!]!;rw [hn] at fe;generalize I[j]! =z at hij hk2 fe hn;refine aY hk2 ?_;refine aF (fe) ?_;exact zn4 (hJ _ (⟨j+1,hlt⟩) ψ) hlt
 obtain rfl:j=I.length:=ω;have hnl:(nI I).length=I.length:=by simp [nI]
 have f6:=yea a A;have f7:=yea b B;obtain⟨r,hr,f0⟩:=yhb (stB a) (stB b) (ye8 A) (ye8 B);rw [yvh ha hb] at hr;by_cases hab:a=b
 ·have fs:Fnc Tryz.prog 15 [qG a,qG b] (fun x obs=>x=.bool true∧obs=[]):=(ydh a b).mono fun x obs ⟨r,hr,h1,h2⟩=>⟨by rw [h1,hr.2 hab],h2⟩
  obtain rfl:=hr.2 hab;rw [show xfl (iG (Tp.dls b))=xfl (iG (Tp.dls a)) by rw [hab]] at f9;refine aA ?_;refine zC6 fs f6 f7 f0 f8 f9 ?_;exact qV fw xm3
 ·have fs:Fnc Tryz.prog 15 [qG a,qG b] (fun x obs=>x=.bool false∧obs=[]):=(ydh a b).mono fun x obs ⟨r,hr,h1,h2⟩=>⟨by rw [h1,Bool.eq_false_iff.2 fun e=>hab (hr.1 e)],h2⟩
  have hr1:r≠-1:=fun e=>hab (hr.1 e);refine aA ?_;exact zK5 fs f6 f7 f0 fw xm3
theorem tlk_law {a0:List Int} {v0:Value} (W:World) (e0:(Sh.slice (Sh.int .i64)).rd (old W) W a0 [v0]):
  Calls Tryz.prog 3 #[v0] W fun e w'=>e=.returned (.bool true)∧Below W.heap.size W w':=
 Fnc.law (ywl a0) (RdTs.slice yjr e0 RdTs.nil')
end Go.Proofs.YthmjocibdepahaaGreat
