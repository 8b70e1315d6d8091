import Derived.Test.YthmjocibdepahaaGreatA16
set_option linter.defProp false
set_option linter.unusedSimpArgs false
set_option linter.unusedVariables false
set_option maxHeartbeats 64000000
set_option maxRecDepth 100000
namespace Go.Proofs.YthmjocibdepahaaGreat
open Go Go.RowKit Rdn Rdn.Dp
def xyb:=aC 215
def xym:=aC 216
theorem yhk (l:PLay) (m:PMem) (h:nJ m) (addr:Int) (h0:0≤addr) (h1:addr<512) (u:Value):FncI Tryz.prog 215 (sW l m u) [.ptr 0 0 [1] 2,.int .i64 addr] (fun x ob=>x=bC (xbh m addr).2∧ob=sW l (xbh m addr).1 u):=by
 have f:=xwf l m h addr h0 h1 u;have hl:=(xkv h h0 h1).1;have hi:addr / 4 % 4=0∨addr / 4 % 4=1∨addr / 4 % 4=2∨addr / 4 % 4=3:=ω;unfold xbh;dsimp only;generalize jP m addr=g at f hl⊢;rcases hi with hi|hi|hi|hi
 all_goals
  rw [hi] at f hl⊢;simp only [Int.reduceToNat] at f hl⊢;refine dG xyb fun W lent S=>?_;refine aA ?_;refine pU 0 [1,2,3,4,5,6] (f) ?_;refine bK ?_;refine aA ?_;refine dS true [0,1,2,3,4,5,6,7] [4] χ χ ?_;simp only [go_sem];refine gZ 7 xyb ?_;exact fP
theorem xv1 (l:PLay) (m:PMem) (h:nJ m) (addr:Int) (h0:0≤addr) (h1:addr<512) (c:Cell) (u:Value):FncI Tryz.prog 216 (sW l m u) [.ptr 0 0 [1] 2,.int .i64 addr,bC c] (fun x ob=>x=.tup []∧ob=sW l (xcf m addr c) u):=by
 have f:=xwf l m h addr h0 h1 u;have hl:=(xkv h h0 h1).1;have hn:=(xkw h h0 h1).1.2.1;have hi:addr / 4 % 4=0∨addr / 4 % 4=1∨addr / 4 % 4=2∨addr / 4 % 4=3:=ω;unfold xcf;dsimp only;generalize jP m addr=g at f hl hn⊢;obtain⟨gc,gl⟩:=g;obtain⟨y0,y1,y2,y3,rfl⟩:=gQ hn;rcases hi with hi|hi|hi|hi
 all_goals
  rw [hi] at f hl⊢;simp only [Int.reduceToNat,sW,dN,bP,List.getElem!_cons_zero,List.getElem!_cons_succ,List.set_cons_zero,List.set_cons_succ] at f hl⊢;refine dG xym fun W lent S=>?_;refine aA ?_;refine pU 0 [1,2,3,4,5,6] (f) ?_;refine bK ?_;refine aA ?_;refine dS true [0,1,2,3,4,5,6] [] χ χ ?_;simp only [go_sem];refine xev 7 xym ?_;(first|(simp only [go_sem];done)|(simp only [go_sem];((try dsimp only);(repeat' (refine And.intro ?_ ?_))<;>first|with_reducible rfl|(simp only [go_sem];done)|(simp only [go_sem];rfl)|(simp only [go_sem,List.map_set];done)|(simp only [List.map_set];(try simp only [go_sem]);first|done|rfl)|(simp only [go_sem];simp [List.map_set];done)|(simp [List.map_set];done)|rfl)))
end Go.Proofs.YthmjocibdepahaaGreat
