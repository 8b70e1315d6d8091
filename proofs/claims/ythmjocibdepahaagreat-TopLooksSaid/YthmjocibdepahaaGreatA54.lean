import Derived.Test.YthmjocibdepahaaGreatA25
import Derived.Test.YthmjocibdepahaaGreatA20
set_option linter.defProp false
set_option linter.unusedSimpArgs false
set_option linter.unusedVariables false
set_option maxHeartbeats 64000000
set_option maxRecDepth 100000
namespace Go.Proofs.YthmjocibdepahaaGreat
open Go Go.RowKit Rdn Rdn.Dp
theorem yxy:yxv 2 3:=yxw
theorem yq6 (p:PProg) (m:PMach) (C:Int) (h:okMach p C m) (hC:C≤2199023255552) (t:Nat) (ht:t<4):FncI Tryz.prog 195 (iJ m) [dM false p,.ptr 0 0 [] 0,.int .i64 t] (fun x ob=>x=.int .i64 (dL p m t).2∧ob=iJ (dL p m t).1):=
 (show(t=0∨t=1)∨t=2∨t=3 by omega).elim (yxx p m C h hC t ht) (yxy p m C h hC t ht)
def xqw:=aC 176
abbrev xd7 (l:List Cell):Ob:=⟨.rows false 117,true,0,.arr 2 (l.map bC)⟩
abbrev obS (p:PProg) (m g:PMach):List Ob:=[⟨.box false 30,true,0,dM false p⟩,⟨.box false 40,true,0,eG false m⟩,⟨.box false 40,true,0,.agg [.agg [.nilS,.int .u16 0],.agg [.nilS,.nilS],.nilS]⟩,xd7 g.mem.cells,⟨.rows false 127,true,0,.arr 3 [bP 6 g.mem.lines[0]!,bP 7 g.mem.lines[1]!,bP 8 g.mem.lines[2]!,bP 9 g.mem.lines[3]!]⟩,⟨.rows false 113,true,0,.arr 8 [eQ 10 g.thr[0]!,eQ 11 g.thr[1]!,eQ 12 g.thr[2]!,eQ 13 g.thr[3]!]⟩,xd7 g.mem.lines[0]!.cells,xd7 g.mem.lines[1]!.cells,xd7 g.mem.lines[2]!.cells,xd7 g.mem.lines[3]!.cells,xd7 g.thr[0]!.regs,xd7 g.thr[1]!.regs,xd7 g.thr[2]!.regs,xd7 g.thr[3]!.regs,⟨.box false 40,true,0,.agg [dQ false g.lay,.agg [.own 3 0,.own 4 0],.own 5 0]⟩]
theorem yuw (p:PProg) (m:PMach) (h:okMach p 1099511627776 m) (t:Nat) (ht:t<4) (n:Int) (hn:1≤n∧n≤64) (hs:m.thr[t]!.state=1):Fnc Tryz.prog 176 [dM false p,eG false m,.int .i64 t,.int .i64 n] (fun x obs=>x=.tup [.agg [dQ false m.lay,iU true (vU p m t n).1.mem,.own 0 0],.int .i64 (vU p m t n).2,.int .i64 0]∧obs=[⟨.row 113,true,0,.arr 8 ((vU p m t n).1.thr.map (dW true))⟩]):=by
 have fv:=xm7 p m h;have fc:=xnw m h;have hml:=h.n;obtain⟨-,-,-,-,pc0,pc1,cn0,cn1,-⟩:=mP h ht;have hD:okMach p 1099511627840 m:=h.le ω;have hR0:vU p m t n=sJ p t (m.thr[t]!.count+n) (vM (m.thr[t]!.count+n) m.thr[t]!) m:=if_neg (not_not_intro hs);generalize hR:vU p m t n=R at hR0;clear hR;obtain⟨L,hL⟩:∃L,L=m.lay:=⟨_,rfl⟩;rw [←hL];obtain⟨u,hu⟩:∃u:Nat,t=u:=⟨t,rfl⟩;rw [hu];rcases(show u=0∨u=1∨u=2∨u=3 by omega) with rfl|rfl|rfl|rfl
 all_goals
  have hsu:=hs;have cu:=And.intro cn0 cn1;rw [hu] at hsu cu;obtain⟨cu0,cu1⟩:=cu;refine iR xqw fv fun W S=>?_;refine dD (fc) ?_;refine iI 3 rfl ?_;refine iI 6 rfl ?_;refine iI 7 rfl ?_;refine iI 8 rfl ?_;refine iI 9 rfl ?_;refine iI 10 rfl ?_;refine iI 11 rfl ?_;refine iI 12 rfl ?_;refine iI 13 rfl ?_;refine dS false [0,1,2,3,4,5,6,7,8,9,10,11,12,13,14] [2,4,8,11,12] χ χ ?_;simp only [go_sem];refine bI [2,4,8,11,12] (fun q:{g:PMach // okMach p 1099511627840 g∧g.lay=L∧g.thr[t]!.count<m.thr[t]!.count+n∧R=sJ p t (m.thr[t]!.count+n) (vM (m.thr[t]!.count+n) g.thr[t]!) g}=>[]) (fun q=>obS p m q.1) (fun q=>vM (m.thr[t]!.count+n) q.1.thr[t]!) (⟨m,hD,hL.symm,ω,hR0⟩) 15 ?_;intro J hJ
  rintro⟨g,hg,hlay,hlt,hRg⟩
  have f:=yq6 p g 1099511627840 hg ω t ht;obtain⟨-,-,-,-,gp0,gp1,gc0,gc1,-⟩:=mP hg ht;obtain⟨k,hk⟩:∃k,vM (m.thr[t]!.count+n) g.thr[t]! =k+1:=⟨vM (m.thr[t]!.count+n) g.thr[t]!-1,by unfold vM;omega⟩;have ok:=xmj hg ht ω;have okn:=ok.n;have okl:=ok.mem.2.1;have goes:=xjf hg ht;have stop:=@xsv p g t k (m.thr[t]!.count+n);have end_:=@xst p g t k (m.thr[t]!.count+n);have go:=@xsu p g t k (m.thr[t]!.count+n);have hl2:(dL p g t).1.lay=g.lay:=by obtain⟨me,y,e,-⟩:=xrk p g t;rw [e]
  rw [hk] at hRg;generalize dL p g t=Z at f ok okn okl goes stop end_ go hl2;obtain⟨g',s⟩:=Z;dsimp only at f ok okn okl goes stop end_ go hl2;by_cases hst:s=-1;rotate_left
  ·obtain rfl:R=(g',s):=hRg.trans (stop hst)
   simp only [iU,rE (iM true) okl,rE (dW true) okn];obtain rfl:L=g'.lay:=(hl2.trans hlay).symm;subst hu;refine aA ?_;refine pU 14 [3,4,5,6,7,8,9,10,11,12,13] (f) ?_;refine bK ?_;refine aA ?_;refine tY 4 2 6 7 8 9 117 rfl rfl rfl rfl rfl (hi:=⟨rfl,rfl,rfl,rfl⟩) (h:=?_);refine tY 5 1 10 11 12 13 117 rfl rfl rfl rfl rfl (hi:=⟨rfl,rfl,rfl,rfl⟩) (h:=?_);refine fG 3 rfl (bV _ _) ?_;refine aK ?_;refine ret xqw [5] ?_;exact fP
  by_cases he:g'.thr[t]!.count=m.thr[t]!.count+n
  ·obtain rfl:R=(g',0):=hRg.trans (end_ hst he)
   simp only [iU,rE (iM true) okl,rE (dW true) okn];obtain rfl:L=g'.lay:=(hl2.trans hlay).symm;subst hu;refine aA ?_;refine pU 14 [3,4,5,6,7,8,9,10,11,12,13] (f) ?_;refine bK ?_;refine aA ?_;refine tY 4 2 6 7 8 9 117 rfl rfl rfl rfl rfl (hi:=⟨rfl,rfl,rfl,rfl⟩) (h:=?_);refine tY 5 1 10 11 12 13 117 rfl rfl rfl rfl rfl (hi:=⟨rfl,rfl,rfl,rfl⟩) (h:=?_);refine fG 3 rfl (bV _ _) ?_;refine aK ?_;refine ret xqw [5] ?_;exact fP
  have hmu:=xwz (goes hst) hlt gp0 gp1;have hRn:R=sJ p t (m.thr[t]!.count+n) (vM (m.thr[t]!.count+n) g'.thr[t]!) g':=(hRg.trans (go hst he)).trans (yux ht ω k g' ok ω ω);subst hu;refine aA ?_;refine pU 14 [3,4,5,6,7,8,9,10,11,12,13] (f) ?_;refine bK ?_;refine aA ?_;refine dS false [0,1,2,3,4,5,6,7,8,9,10,11,12,13,14] [2,4,8,11,12] χ χ ?_;simp only [go_sem];exact lX 15 (hJ _ (⟨g',ok,hl2.trans hlay,ω,hRn⟩) (by dsimp only;omega)) (by refine⟨rfl,by simp,?_,?_,?_,?_⟩<;>first|rfl|exact trivial|(simp only [go_sem];done)|simp)
end Go.Proofs.YthmjocibdepahaaGreat
