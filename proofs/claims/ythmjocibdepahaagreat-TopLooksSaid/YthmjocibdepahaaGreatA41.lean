import Derived.Test.YthmjocibdepahaaGreatA32
set_option linter.defProp false
set_option linter.unusedSimpArgs false
set_option linter.unusedVariables false
set_option maxHeartbeats 64000000
set_option maxRecDepth 100000
namespace Go.Proofs.YthmjocibdepahaaGreat
open Go Go.RowKit Rdn Rdn.Dp
def xzr:=aC 60
theorem ys9 (p:PProg) (l:PLay) (o:Rdn.Outside) (hp:okProg p) (h:jW l p.sizes) (F:FitO o) (hi:xfd p.sizes o.files.data=true):Fnc Tryz.prog 60 [dM false p,dQ false l,jO o] (fun x obs=>x=.tup [.agg [dM false p,eG true (xhh p l),jO o,nU true lk0,.sl true 18 [],.sl true 1 [.int .i64 (-1),.int .i64 (-1),.int .i64 (-1),.int .i64 (-1)]],.int .i64 0]∧obs=[]):=by
 have fs:=yvl p l hp h;have fv:=xbe o;have hv:=xah F;have hfd:=F.f.d;have hfl:=F.f.len;have fp:=yri p.sizes o.files ω (fun k hk=>by have:=hfl _ (kE hk);omega);have fc:=xcd o F;have fl:=yne;rw [hv] at fv;rw [hi] at fp;clear hv hi;generalize xhh p l=m at fs⊢;refine uK xzr fun W S=>?_;refine bZ (fs) ?_;refine qL ?_;refine bZ (fv) ?_;refine qL ?_;refine bZ (fp) ?_;refine qL ?_;refine aA ?_;refine jC fc fl ?_;refine lZ 5 4 245 18 rfl rfl δ rfl ?_;refine aK ?_;refine lZ 5 5 3 1 rfl rfl δ rfl ?_;refine aK ?_;refine fU 5 ?_;refine aA ?_;exact aU xzr
end Go.Proofs.YthmjocibdepahaaGreat
