import Derived.Test.YthmjocibdepahaaGreatA19
set_option linter.defProp false
set_option linter.unusedSimpArgs false
set_option linter.unusedVariables false
set_option maxHeartbeats 64000000
set_option maxRecDepth 100000
namespace Rdn.Dp
open Go Go.RowKit Rdn
section
variable {P:Program} {cx:Cx}
theorem FncI.mono {f:FuncId} {ob:List Ob} {xs:List V} {R0 R1:V→List Ob→Prop} (h:FncI P f ob xs R0) (hR:∀x o,R0 x o→R1 x o):FncI P f ob xs R1:=fun w S lent E vs hl hr=>(h w S lent E vs hl hr).mono (by
 rintro e w' ⟨x,o,v,E',h1,h2,h3⟩
 exact⟨x,o,v,E',hR _ _ h1,h2,h3⟩)
theorem xoa {N:Nat} {Q:Exit→Act→World→Prop} {k:List It} {n:Nat} {t:List (Nat×V)} {ob:List Ob} {lr:List RO} {gd:Option (Nat×Bool)} {i:Nat} {f:FuncId} {xs:List X} (r0:Nat) (rl:List Nat) {ys:List V} {ob0 ob1:List Ob} {x:V} {F:Prop} (hF:FncI P f ob0 ys fun y o=>y=x∧o=ob1∧F)
  (h:bQ ⟨n,t,ob⟩ gd=some true∧zB ⟨n,t,ob⟩ (r0::rl) (r0::rl)∧xb5 ⟨n,t,ob⟩ rl∧V.nows (sV ⟨n,t,ob⟩ (r0::rl)) (xs.map (X.ev ⟨n,t,ob⟩))∧V.mvs (fun q=>(kF (r0::rl) q,0)) (xs.map (X.ev ⟨n,t,ob⟩))=ys∧vV ⟨n,t,ob⟩ (r0::rl) (r0::rl)=ob0∧yL ⟨n,t,ob⟩ (r0::rl) ob1∧xe8 (pX ob1) ob1∧xcx (r0::rl).length ob1∧x.now (pX ob1)∧
   (F→EvR P cx N Q k lr ⟨n,(i,x.mv (jI ⟨n,t,ob⟩ (r0::rl) ob1))::t,yC ⟨n,t,ob⟩ (r0::rl) ob1⟩)):EvR P cx N Q k (⟨some i,gd,.call f xs⟩::lr) ⟨n,t,ob⟩:=by
 obtain⟨hw,hs,hv,hn,hy,hob,c1,c2,c3,c4,h⟩:=h;refine⟨fun hN E a w R ops os hcc=>?_⟩;obtain⟨o,os',rfl,h1,h2⟩:=kX hcc;obtain⟨k1,k2,k3,k4⟩:=kY h1;obtain⟨aas,hxs,hrun⟩:=wC k1 a;unfold wpList;rw [if_pos (uH R k2 hw)];refine .inl ?_;unfold Oper.wp;rw [hrun w,Oper.upon_enter];refine(xob R hxs hF rfl hs hv hn hy hob).mono ?_
 rintro e w' ⟨x',ob',v,⟨rfl,rfl,hf⟩,rfl,hb⟩
 obtain⟨E',L,hx',R'⟩:=hb c1 c2 c3 c4;show wpList P ops (lT P cx N Q k) os' (a.put o.dst v) w';rw [show o.dst=some i from k3];exact(h hf).h hN E' _ w' (R'.put (d:=some i) (fun j hj=>by show j<n;rw [show n=N from hN];exact k4 j hj) hx') ops os' h2
end
end Rdn.Dp
namespace Go.Proofs.YthmjocibdepahaaGreat
open Go Go.RowKit Rdn Rdn.Dp
def xe0:=zcs 183
end Go.Proofs.YthmjocibdepahaaGreat
