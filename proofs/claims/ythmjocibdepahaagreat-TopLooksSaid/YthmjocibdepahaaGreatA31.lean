import Derived.Test.YthmjocibdepahaaGreatA30
set_option linter.defProp false
set_option linter.unusedSimpArgs false
set_option linter.unusedVariables false
set_option maxHeartbeats 64000000
set_option maxRecDepth 100000
namespace Go.Proofs.YthmjocibdepahaaGreat
open Go Go.RowKit Rdn Rdn.Dp
def qO:=aC 181
theorem xq2 (l:PLocks) (h:okLk l) (k t:Int):Fnc Tryz.prog 181 [nU false l,.int .i64 k,.int .i64 t] (fun x obs=>x=.tup [nU true (rW l k t).1,.int .i64 (rW l k t).2.1,.bool (rW l k t).2.2]∧obs=[]):=by
 have fc:=xpz l h;have ho:=h.o;have hq:=h.q;unfold rW;by_cases k0:k<0
 ·rw [if_pos (.inl k0)]
  refine aI qO fun W S=>?_;refine dD (fc) ?_;exact aU qO
 by_cases k1:4≤k
 ·rw [if_pos (.inr (.inl k1))]
  refine aI qO fun W S=>?_;refine dD (fc) ?_;exact aU qO
 obtain⟨K,rfl⟩:∃K:Nat,k=K:=⟨k.toNat,ω⟩;rw [Int.toNat_natCast];by_cases k2:l.owner[K]!≠t
 ·rw [if_pos (.inr (.inr k2))]
  refine aI qO fun W S=>?_;refine dD (fc) ?_;exact aU qO
 rw [if_neg (by simp only [not_or];exact⟨k0,k1,k2⟩)];replace k2:l.owner[K]! =t:=Classical.not_not.1 k2;have hK:K=0∨K=1∨K=2∨K=3:=ω;obtain⟨ow,qu⟩:=l;obtain⟨w0,w1,w2,w3,rfl⟩:=gQ ho;obtain⟨q0,q1,q2,q3,rfl⟩:=gQ hq;simp only [oD,xd8,nU,bD,List.map_cons,List.map_nil] at fc;clear h ho hq;rcases hK with rfl|rfl|rfl|rfl
 all_goals
  simp only [List.getElem!_cons_zero,List.getElem!_cons_succ,List.set_cons_zero,List.set_cons_succ] at k2⊢;subst k2
 ·cases q0 with
  |nil=>
   simp only [List.map_cons,List.map_nil] at fc;refine aI qO fun W S=>?_;refine dD (fc) ?_;exact aU qO
  |cons x w=>
   have hm0:((x::w).length:Int)>0:=by simp only [List.length_cons];omega
   have hw:(w.map (V.int .i64)).take w.length=w.map (V.int .i64):=List.take_of_length_le ξ;simp only [List.map_cons,List.map_nil] at fc;refine aI qO fun W S=>?_;refine dD (fc) ?_;simp only [hw];exact aU qO
 ·cases q1 with
  |nil=>
   simp only [List.map_cons,List.map_nil] at fc;refine aI qO fun W S=>?_;refine dD (fc) ?_;exact aU qO
  |cons x w=>
   have hm0:((x::w).length:Int)>0:=by simp only [List.length_cons];omega
   have hw:(w.map (V.int .i64)).take w.length=w.map (V.int .i64):=List.take_of_length_le ξ;simp only [List.map_cons,List.map_nil] at fc;refine aI qO fun W S=>?_;refine dD (fc) ?_;simp only [hw];exact aU qO
 ·cases q2 with
  |nil=>
   simp only [List.map_cons,List.map_nil] at fc;refine aI qO fun W S=>?_;refine dD (fc) ?_;exact aU qO
  |cons x w=>
   have hm0:((x::w).length:Int)>0:=by simp only [List.length_cons];omega
   have hw:(w.map (V.int .i64)).take w.length=w.map (V.int .i64):=List.take_of_length_le ξ;simp only [List.map_cons,List.map_nil] at fc;refine aI qO fun W S=>?_;refine dD (fc) ?_;simp only [hw];exact aU qO
 ·cases q3 with
  |nil=>
   simp only [List.map_cons,List.map_nil] at fc;refine aI qO fun W S=>?_;refine dD (fc) ?_;exact aU qO
  |cons x w=>
   have hm0:((x::w).length:Int)>0:=by simp only [List.length_cons];omega
   have hw:(w.map (V.int .i64)).take w.length=w.map (V.int .i64):=List.take_of_length_le ξ;simp only [List.map_cons,List.map_nil] at fc;refine aI qO fun W S=>?_;refine dD (fc) ?_;simp only [hw];exact aU qO
end Go.Proofs.YthmjocibdepahaaGreat
