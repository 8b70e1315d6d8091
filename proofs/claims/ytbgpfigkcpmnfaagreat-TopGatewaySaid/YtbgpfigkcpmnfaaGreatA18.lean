import Derived.Test.YtbgpfigkcpmnfaaGreatA8
import Derived.Test.YtbgpfigkcpmnfaaGreatA17
import Derived.Test.YtbgpfigkcpmnfaaGreatA6
set_option linter.unusedSimpArgs false
set_option linter.unusedVariables false
set_option maxHeartbeats 64000000
set_option maxRecDepth 100000
namespace Go.Proofs.YtbgpfigkcpmnfaaGreat
open Go Go.RowKit Rdn Rdn.Dp
theorem xu0 (l:PLay) (m:PMem) (h:xfi m) (addr:Int) (h0:0≤addr) (h1:addr<512) (u:Value):FncI Tryz.prog 119 (obF l m u) [.ptr 0 0 [1] 2,.int .i64 addr] (fun x ob=>x=xau (xhs m addr).2∧ob=obF l (xhs m addr).1 u):=by
 refine zcf Tryz.prog 119 fun mz=>?_;have f:=yek l m h addr h0 h1 u;have hl:=(xi4 h h0 h1).1;have hi:addr / 4 % 4=0∨addr / 4 % 4=1∨addr / 4 % 4=2∨addr / 4 % 4=3:=by omega
 unfold xhs;dsimp only;generalize xbi m addr=g at f hl⊢;rcases hi with hi|hi|hi|hi
 all_goals
  rw [hi] at f hl⊢;simp only [Int.reduceToNat] at f hl⊢;refine zqi mz fun W lent S=>?_;refine zst ?_;refine xc2 0 [1,2,3,4,5,6] (f) ?_;refine zev ?_;refine zst ?_;refine xa7 true [0,1,2,3,4,5,6,7] [4] (by simp only [go_sem]) (by simp only [go_sem]) ?_;simp only [go_sem];refine xag 7 mz ?_;exact zfn
theorem xkt (l:PLay) (m:PMem) (h:xfi m) (addr:Int) (h0:0≤addr) (h1:addr<512) (c:Cell) (u:Value):FncI Tryz.prog 120 (obF l m u) [.ptr 0 0 [1] 2,.int .i64 addr,xau c] (fun x ob=>x=.tup []∧ob=obF l (xf1 m addr c) u):=by
 refine zcf Tryz.prog 120 fun mz=>?_;have f:=yek l m h addr h0 h1 u;have hl:=(xi4 h h0 h1).1;have hn:=(xl7 h h0 h1).1.2.1;have hi:addr / 4 % 4=0∨addr / 4 % 4=1∨addr / 4 % 4=2∨addr / 4 % 4=3:=by omega
 unfold xf1;dsimp only;generalize xbi m addr=g at f hl hn⊢;obtain⟨gc,gl⟩:=g;obtain⟨y0,y1,y2,y3,rfl⟩:=four hn;rcases hi with hi|hi|hi|hi
 all_goals
  rw [hi] at f hl⊢;simp only [Int.reduceToNat,obF,rowC,xbr,List.getElem!_cons_zero,List.getElem!_cons_succ,List.set_cons_zero,List.set_cons_succ] at f hl⊢;refine zqi mz fun W lent S=>?_;refine zst ?_;refine xc2 0 [1,2,3,4,5,6] (f) ?_;refine zev ?_;refine zst ?_;refine xa7 true [0,1,2,3,4,5,6] [] (by simp only [go_sem]) (by simp only [go_sem]) ?_;simp only [go_sem]
  trace_state
  refine xir 7 mz ?_;(first|(simp only [go_sem];done)|(simp only [go_sem];((try dsimp only);(repeat' (refine And.intro ?_ ?_))<;>first|with_reducible rfl|(simp only [go_sem];done)|(simp only [go_sem];rfl)|(simp only [go_sem,List.map_set];done)|(simp only [List.map_set];(try simp only [go_sem]);first|done|rfl)|(simp only [go_sem];simp [List.map_set];done)|(simp [List.map_set];done)|rfl)))
end Go.Proofs.YtbgpfigkcpmnfaaGreat
