import Derived.Test.YthmjocibdepahaaGreatA21
set_option linter.defProp false
set_option linter.unusedSimpArgs false
set_option linter.unusedVariables false
set_option maxHeartbeats 64000000
set_option maxRecDepth 100000
namespace Go.Proofs.YthmjocibdepahaaGreat
open Go Go.RowKit Rdn Rdn.Dp
def iP:=zcs 206
theorem ywn (pc:Int) (c:Cell):Fnc Tryz.prog 229 [.int .i64 pc,bC c] (fun x obs=>x=eQ 0 (lV pc c)∧obs=[iE (lV pc c).regs]):=by
 have fe:=ywf;rw [show lV pc c=ypc pc c from rfl];refine aI ya9 fun W S=>?_;refine dD (fe) ?_;refine ret ya9 [2] ?_;exact fP
structure PutOk (p:PProg) (m:PMach) (t:Nat) (q:Request) (x:Rdn.Result):Prop where
 st:m.thr[t]!.state=2
 c0:0≤q.call
 c1:q.call≤15
 al:q.args.length=(kl q.call).length
 sp:-1≤x.spawn∧x.spawn<4
 xd:x.data.length≤16
 rd:∀c∈x.data,kQ c
 ra:∀c∈q.args,kQ c
theorem ymz {c:Int} (h:c=12):(kl c).length=1:=by subst h;rfl
theorem ymy {c:Int} (h:c=10):(kl c).length=2:=by subst h;rfl
theorem xxh {c:Int} (h:iO c=2):(kl c).length=3:=by
 unfold iO at h;split at h
 ·cases h
 ·split at h
  ·rename_i e
   rcases e with rfl|rfl<;>rfl
  ·cases h
theorem xk6 {c:Int} (h:iO c=2):c=2∨c=14:=by
 unfold iO at h;split at h
 ·cases h
 ·split at h
  ·assumption
  ·cases h
theorem xu1 {c:Int} (h:c=10∨c=12):iO c=0:=by rcases h with rfl|rfl<;>rfl
theorem ys0 {p:PProg} {m:PMach} {t:Nat} {q:Request} {x:Rdn.Result} (hM:xbb p m q x=(m.mem,true)) (v0:(iD m.lay p.sizes x.value).2=0):sG p m t q x=if ¬xha p m q x then(m,false) else(⟨m.lay,m.mem,(xd2 p m q x).set t (kN q m.thr[t]! (iD m.lay p.sizes x.value).1)⟩,true):=by
 unfold sG;rw [hM,if_neg (not_not_intro v0)];dsimp only;rw [if_neg (fun e:true=false=>by cases e)]
def xmv (lay:PLay) (thr:List PThr) (t:Nat) (y:PThr) (R:PMem×Bool):PMach×Bool:=if R.2=false then(⟨lay,R.1,thr⟩,false) else(⟨lay,R.1,thr.set t y⟩,true)
theorem xmw {lay:PLay} {thr:List PThr} {t:Nat} {y:PThr} {g:PMem}:xmv lay thr t y (g,false)=(⟨lay,g,thr⟩,false):=rfl
theorem yrr {lay:PLay} {thr:List PThr} {t:Nat} {y:PThr} {g:PMem}:xmv lay thr t y (g,true)=(⟨lay,g,thr.set t y⟩,true):=rfl
theorem yrz {p:PProg} {m:PMach} {t:Nat} {q:Request} {x:Rdn.Result} (h:iO q.call=2) (v0:(iD m.lay p.sizes x.value).2=0):sG p m t q x=xmv m.lay m.thr t (kT m.thr[t]! (iD m.lay p.sizes x.value).1) (xbb p m q x):=by
 have hc:=xk6 h;have e12:¬q.call=12:=ω;have e10:¬xda q x:=fun e=>by have:=e.1;omega
 unfold sG xmv;rw [if_neg (not_not_intro v0)];split
 ·rfl
 rw [if_neg (not_not_intro ⟨fun e=>absurd e e12,fun e=>absurd e e10⟩)];simp only [xd2,if_neg e10,kN,if_neg e12]
theorem yrw {p:PProg} {m:PMach} {q:Request} {x:Rdn.Result} (h:iO q.call=2∧x.data≠[]):xbb p m q x=if ¬mJ p.sizes q.args[1]!∨q.args[1]!.tag≠1 then(m.mem,false) else vT m.lay p.sizes q.args[1]!.region q.args[1]!.offset x.data m.mem:=if_pos h
theorem yru {p:PProg} {m:PMach} {q:Request} {x:Rdn.Result} (h:¬(iO q.call=2∧x.data≠[])):xbb p m q x=(m.mem,true):=if_neg h
end Go.Proofs.YthmjocibdepahaaGreat
