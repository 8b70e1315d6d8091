import Derived.Test.YthmjocibdepahaaGreatA19
set_option linter.unusedSimpArgs false
set_option linter.unusedVariables false
namespace Go.Proofs.YthmjocibdepahaaGreat
open Go Go.RowKit Rdn Rdn.Dp
theorem zpm {P Q:Prop} (k:P) (h:Zb P→Q:=by
 intro zk;simp only [PMach.setT,qH,iQ,iJ,dN,bP,eQ,List.getElem!_cons_zero,List.getElem!_cons_succ,List.set_cons_zero,List.set_cons_succ];exact zk.h):Q:=h ⟨k⟩
theorem zpt {P Q:Prop} (k:P) (h:Zb P→Q:=by
 intro zk;have y:=zk.h;simp only [iJ,dN,eQ,bP,PMach.setT,qH,List.getElem!_cons_zero,List.getElem!_cons_succ,List.set_cons_zero,List.set_cons_succ] at y;exact y):Q:=h ⟨k⟩
theorem zJ {R F Q:Prop} (r:R) (f:F) (h:Zb R→Zb F→Q:=by
 as_aux_lemma=>intro zr zf;refine zpm ?_;refine dG zr.h fun W lent S=>?_;refine aA ?_;refine aF zf.h ?_;exact vX zr.h):Q:=h ⟨r⟩ ⟨f⟩
theorem zo2 {R F Q:Prop} (r:R) (f:F) (h:Zb R→Zb F→Q:=by
 as_aux_lemma=>intro zr zf;refine zpm ?_;have ft:=zpt zf.h;refine dG zr.h fun W lent S=>?_;refine aA ?_;refine pU 0 [1,2,3,4,5,6,7,8,9,10,11] (ft) ?_;refine bK ?_;refine aA ?_;refine dS true [0,1,2,3,4,5,6,7,8,9,10,11] [6] (by simp only [go_sem]) (by simp only [go_sem]) ?_;simp only [go_sem];exact vX zr.h):Q:=h ⟨r⟩ ⟨f⟩
theorem zo3 {R F G Q:Prop} (r:R) (f:F) (g:G) (h:Zb R→Zb F→Zb G→Q:=by
 as_aux_lemma=>intro zr zf zg;refine zpm ?_;have ft:=zpt zg.h;refine dG zr.h fun W lent S=>?_;refine aA ?_;refine aF zf.h ?_;refine pU 0 [1,2,3,4,5,6,7,8,9,10,11] (ft) ?_;refine bK ?_;refine aA ?_;refine dS true [0,1,2,3,4,5,6,7,8,9,10,11] [6] (by simp only [go_sem]) (by simp only [go_sem]) ?_;simp only [go_sem];exact vX zr.h):Q:=h ⟨r⟩ ⟨f⟩ ⟨g⟩
end Go.Proofs.YthmjocibdepahaaGreat
