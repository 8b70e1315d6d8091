import Derived.Test.YthmjocibdepahaaGreatA21
set_option linter.defProp false
set_option linter.unusedSimpArgs false
set_option linter.unusedVariables false
set_option maxHeartbeats 64000000
set_option maxRecDepth 100000
namespace Go.Proofs.YthmjocibdepahaaGreat
open Go Go.RowKit Rdn Rdn.Dp
def xlr:=aC 200
abbrev oD (l:List Int):Ob:=⟨.row 3,true,0,.arr 1 (bH l)⟩
abbrev xd8 (l:List (List Int)):Ob:=⟨.row 22,true,0,.arr 1 (l.map (bD true 1 (V.int .i64)))⟩
theorem pig:∀(n:Nat) (q:List Int),q.Nodup→(∀x∈q,0≤x∧x<(n:Int))→q.length≤n
 |0,q,_,h=>by
  cases q with
  |nil=>simp
  |cons a t=>have:=h a ξ;omega
 |n+1,q,hn,h=>by
  have h5:=pig n (q.erase (n:Int)) (hn.erase _) (fun x hx=>by
   have h1:=(hn.mem_erase_iff).1 hx;have h2:=h x h1.2;have h3:=h1.1;omega)
  have h4:q.length≤(q.erase (n:Int)).length+1:=by rw [List.length_erase];split<;>omega
  omega
theorem xc8 {q:List Int} (h:q.Nodup∧∀x∈q,0≤x∧x<4):q.length≤4:=by
 exact pig 4 q h.1 h.2
theorem xpz (l:PLocks) (h:okLk l):Fnc Tryz.prog 200 [nU false l] (fun x obs=>x=.agg [.own 0 0,.own 1 0]∧obs=[oD l.owner,xd8 l.queue]):=by
 obtain⟨ow,qu⟩:=l;obtain⟨k1,k2,k3,k4⟩:=h;have lq:∀x∈qu,x.length≤4:=fun x hx=>xc8 (k4 x hx);obtain⟨x0,x1,x2,x3,rfl⟩:=gQ k2;have l0:=lq x0 ξ;have l1:=lq x1 ξ;have l2:=lq x2 ξ;have l3:=lq x3 ξ;clear lq k4 k3 k2;dsimp only at k1;simp only [oD,xd8,List.map_cons,List.map_nil];refine aI xlr fun W S=>?_;refine lZ 3 1 22 1 rfl rfl δ rfl ?_;refine fU 5 ?_;refine aA ?_;refine xbd xlr [2,4] ?_;exact fP
end Go.Proofs.YthmjocibdepahaaGreat
