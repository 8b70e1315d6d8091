import Derived.Test.YthmjocibdepahaaGreatA1
import Derived.Laws.MakeOwn
import Derived.Great.BuildSlice
import Derived.Lib.ConvBytes
set_option linter.unusedVariables false
namespace Rdn.Dp
open Go Go.RowKit Rdn
section
variable {P:Program} {cx:Cx} {E:Env} {σ:AS} {a:Act} {w:World}
theorem yd6 {T:TypeId} (ht:P.underlying T=some .bool) (x y:Bool) (w:World):(Op.equal T (.bool x) (.bool y)).run P w=.ok (x==y) w:=by
 have key:∀d,(Op.equalIn (d+1) T (.bool x) (.bool y)).run P w=.ok (x==y) w:=by
  intro d;simp [Op.equalIn,run_underlying ht]
 exact key 9999
theorem ygc {op:BinOp} {T:TypeId} {x y:Operand} {u v:V} {p q:Value} (hu:RdT E w u p) (hv:RdT E w v q) (h:(xhs (xde P T) op u v).2):
  ∃z,(do eqGuard op T x y p q;binOp op T p q:Sem Value).run P w=.ok z w∧RdT E w (xhs (xde P T) op u v).1 z:=by
 unfold xhs at h⊢;split at h
 ·rename_i k a k' b
  obtain⟨rfl,ha⟩:=rd_int hu;obtain⟨rfl,hb⟩:=rd_int hv;have hg:(eqGuard op T x y (.int k a) (.int k' b)).run P w=.ok () w:=by
   unfold eqGuard;cases op<;>simp
  simp only [Sem.run_bind,hg,Result.andThen_ok];unfold xo7 at h⊢;cases op<;>simp only at h⊢
  case shl=>exact⟨_,by simp [binOp,Op.shift,show ¬b<0 by omega],oC (xal _ _)⟩
  case shr=>exact⟨_,by simp [binOp,Op.shift,show ¬b<0 by omega],oC (yl7 _ ha)⟩
  case add=>subst h;exact⟨_,by simp [binOp,Op.intArith],oC (xal _ _)⟩
  case sub=>subst h;exact⟨_,by simp [binOp,Op.intArith],oC (xal _ _)⟩
  case mul=>subst h;exact⟨_,by simp [binOp,Op.intArith],oC (xal _ _)⟩
  case quo=>obtain⟨rfl,h0⟩:=h;exact⟨_,by simp [binOp,Op.intDiv,h0],oC (xal _ _)⟩
  case rem=>obtain⟨rfl,h0⟩:=h;exact⟨_,by simp [binOp,Op.intDiv,h0],oC (ywm ha)⟩
  case and=>subst h;exact⟨.int k (xhr k a b),by simp [binOp,Op.intBits,xhr],oC (xal _ _)⟩
  case or=>subst h;exact⟨.int k (bor k a b),by simp [binOp,Op.intBits,bor],oC (xal _ _)⟩
  case xor=>subst h;exact⟨.int k (zN k a b),by simp [binOp,Op.intBits,zN],oC (xal _ _)⟩
  case andNot=>subst h;exact⟨.int k (xo5 k a b),by simp [binOp,Op.intBits,xo5],oC (xal _ _)⟩
  case eql=>subst h;exact⟨_,by simp [binOp,Op.intCmp],yY _⟩
  case neq=>subst h;exact⟨_,by simp [binOp,Op.intCmp],yY _⟩
  case lss=>subst h;exact⟨_,by simp [binOp,Op.intCmp],yY _⟩
  case leq=>subst h;exact⟨_,by simp [binOp,Op.intCmp],yY _⟩
  case gtr=>subst h;exact⟨_,by simp [binOp,Op.intCmp],yY _⟩
  case geq=>subst h;exact⟨_,by simp [binOp,Op.intCmp],yY _⟩
 ·rename_i a b
  obtain rfl:=xca hu;obtain rfl:=xca hv;split at h
  ·have ht:P.underlying T=some .bool:=by
    cases hq:P.underlying T with
    |none=>simp [xde,hq] at h
    |some d=>cases d<;>simp_all [xde]
   exact⟨_,by simp [eqGuard,binOp,yd6 ht],yY _⟩
  ·have ht:P.underlying T=some .bool:=by
    cases hq:P.underlying T with
    |none=>simp [xde,hq] at h
    |some d=>cases d<;>simp_all [xde]
   exact⟨_,by simp [eqGuard,binOp,yd6 ht],yY _⟩
  ·exact h.elim
 ·rename_i a b
  obtain rfl:=ycg hu;obtain rfl:=ycg hv;split at h
  ·exact⟨_,by simp [eqGuard,binOp,Op.stringOp],yY _⟩
  ·exact⟨_,by simp [eqGuard,binOp,Op.stringOp],yY _⟩
  ·exact h.elim
 ·exact h.elim
theorem ywy {op:UnOp} {u:V} {p:Value} (hu:RdT E w u p) (h:(unV op u).2):∃z,(Op.unary op p).run P w=.ok z w∧RdT E w (unV op u).1 z:=by
 unfold unV at h⊢;split at h
 ·obtain⟨rfl,ha⟩:=rd_int hu
  split at h
  ·exact⟨_,by simp [Op.unary,Op.intArith],oC (xal _ _)⟩
  ·exact⟨_,by simp [Op.unary,Op.intBits],oC (xal _ _)⟩
  ·exact h.elim
 ·obtain rfl:=xca hu
  split at h
  ·exact⟨_,by simp [Op.unary],yY _⟩
  ·exact h.elim
 ·exact h.elim
theorem xje {f:Int→V×Prop} {x:V} (h:(uT f x).2):∃k n,x=.int k n∧(f n).2∧(uT f x).1=(f n).1:=by
 unfold uT at h⊢;split at h
 ·exact⟨_,_,rfl,h,rfl⟩
 ·exact h.elim
theorem xxu (R:Rel cx E σ a w) {T:TypeId} {d:TypeDesc} {i:TypeInfo} (hd:P.underlying T=some d) (hi:P.info? T=some i) {u:V} {p:Value} (hu:RdT E w u p) (h:(xgo (tN d) i.size σ u).2):
  ∃z,(Instr.loadAt T p).run P w=.ok z w∧RdT E w (xgo (tN d) i.size σ u).1 z:=by
 unfold xgo at h⊢;split at h
 ·obtain⟨h1,b,o,xs,rfl,h3,h4,h5⟩:=xmz hu
  exact yd7 hd hi h5 h4 h.1 h.2
 ·obtain⟨hg,h1,h2,h3,h4⟩:=h
  obtain⟨ob,u0,b,xs,k1,k2,k3,k4,k5,k6,rfl,k8,k9⟩:=xfg R hu hg;simp only [k3] at h1 h2 h3 h4⊢;obtain⟨pre,c,post,rfl,m1,m2,_⟩:=xmd _ 0 ob.v xs k9 h1;have ha:At w b (0+pre.length) c:=k8.right.left;rw [show(0:Nat)+pre.length=_ by rw [m1,h2]] at ha;exact yd7 hd hi ha m2 h3 h4
 ·exact h.elim
theorem xdj (b o j:Nat):(⟨b,o,none⟩:Addr).add j=⟨b,o+j,none⟩:=by unfold Addr.add;split<;>simp_all
theorem xo3 {b o:Nat} {l:List V} {xs:List Value} (ha:At w b o xs) (hr:RdL E w l xs) {j:Nat} (hj:j<l.length):∃c,At w b (o+V.sizes (l.take j)) c∧RdV E w l[j] c:=by
 obtain⟨ys,c,zs,rfl,h1,h2,_⟩:=hr.part hj;exact⟨c,by rw [←h1];exact ha.right.left,h2⟩
theorem xju {s:Nat} {l:List V} (hU:Unif s l) {j:Nat} (hj:j≤l.length):V.sizes (l.take j)=j*s:=by
 rw [wP (hU.take j),List.length_take,Nat.min_eq_left hj,Nat.mul_comm]
theorem yl9 (R:Rel cx E σ a w) {T:TypeId} {fs:Array Field} {f:Field} {i:TypeInfo} {j:Nat} (hT:P.underlying T=some (.struct fs)) (hf:fs[j]?=some f) (hi:P.info? f.type=some i) (h0:i.size≠0) {u:V} {p:Value} (hu:RdT E w u p) (h:(xgd f.offset j σ u).2):
  ∃z,(Instr.fieldAt T p j).run P w=.ok z w∧RdT E w (xgd f.offset j σ u).1 z:=by
 have key:∀b o,(Instr.fieldAt T (.pointer (some ⟨b,o,none⟩)) j).run P w=.ok (.pointer (some ⟨b,o+f.offset,none⟩)) w:=by
  intro b o;simp [Instr.fieldAt,run_underlying hT,hf,Instr.sureAddr,fieldPlace,Go.sizeOf,typeInfo,hi,h0,xdj]
 unfold xgd at h⊢;split at h
 ·obtain⟨hj,hs⟩:=h
  obtain⟨h1,b,o,xs,rfl,h3,h4,h5⟩:=xmz hu;simp only [RdV] at h4;obtain⟨c,k1,k2⟩:=xo3 h5 h4 hj;refine⟨_,key b o,?_⟩;simp only [V.pure] at h1;rw [rF hj];rw [hs] at k1;exact xj9 (pures_iff.1 h1 _ (List.getElem_mem hj)) h3 k2 k1
 ·obtain⟨ob,u0,b,xs,k1,k2,k3,k4,k5,k6,rfl,k8,k9⟩:=xfg R hu h
  exact⟨_,key b _,xj8 (g':=0) k4 k6⟩
 ·exact h.elim
theorem ybu {T:TypeId} {d:TypeDesc} {i:TypeInfo} (hd:P.underlying T=some d) (hi:P.info? T=some i) {x:V} {pre c post:List Value} (hx:RdV E w x c) (hs:x.size=i.size) (hag:x.isAgg=tN d):
  ∃v,(part T (pre++(c++post)).toArray pre.length).run P w=.ok v w∧RdT E w x v:=by
 have hl:=hx.len;rcases hx.toT with ⟨h1,h2⟩|⟨h1,v,rfl,h2⟩
 ·refine⟨.agg c.toArray,?_,h2⟩
  rw [h1] at hag;have hagg:(isAgg T).run P w=.ok true w:=by
   unfold isAgg;rw [Sem.run_bind,run_underlying hd w]
   revert hag
   cases d<;>simp [tN]
  have e:(pre++(c++post)).toArray.extract pre.length (pre.length+i.size)=c.toArray:=by
   rw [←hs,←hl];apply Array.ext';simp
  simp only [part,Sem.run_bind,hagg,Result.andThen_ok,if_true,Go.sizeOf,typeInfo,run_program,hi,Sem.run_pure,e]
 ·refine⟨v,?_,h2⟩
  rw [h1] at hag;have hagg:(isAgg T).run P w=.ok false w:=by
   unfold isAgg;rw [Sem.run_bind,run_underlying hd w]
   revert hag
   cases d<;>simp [tN]
  simp [part,hagg]
theorem yla {T:TypeId} {fs:Array Field} {f:Field} {d:TypeDesc} {i:TypeInfo} {j:Nat} (hT:P.underlying T=some (.struct fs)) (hf:fs[j]?=some f) (hd:P.underlying f.type=some d) (hi:P.info? f.type=some i) {u:V} {p:Value} (hu:RdT E w u p) (h:(xie (tN d) i.size f.offset j u).2):
  ∃z,(Instr.field T p j).run P w=.ok z w∧RdT E w (xie (tN d) i.size f.offset j u).1 z:=by
 unfold xie at h⊢;split at h
 ·obtain⟨hj,hs,hn,hag⟩:=h
  simp only [RdT] at hu;obtain⟨cs,rfl,hr⟩:=hu;simp only [RdV] at hr;obtain⟨ys,c,zs,rfl,h1,h2,_⟩:=hr.part hj;rw [rF hj] at hn hag⊢;obtain⟨v,k1,k2⟩:=ybu (P:=P) hd hi (pre:=ys) (post:=zs) h2 hn hag;rw [h1,hs] at k1;exact⟨v,by simp [Instr.field,run_underlying hT,hf,asAgg,k1],k2⟩
 ·exact h.elim
theorem yma {T:TypeId} {m:Nat} {e:TypeId} {d:TypeDesc} {f:TypeInfo} (hT:P.underlying T=some (.array m e)) (hd:P.underlying e=some d) (hi:P.info? e=some f) {k:IntKind} {n:Int} {u:V} {p:Value} (hu:RdT E w u p) (h:(xim (tN d) m f.size n u).2):
  ∃z,(Instr.index T p (.int k n)).run P w=.ok z w∧RdT E w (xim (tN d) m f.size n u).1 z:=by
 unfold xim at h⊢;split at h
 ·obtain⟨hs,hl,h0,hm,hag⟩:=h
  simp only [RdT] at hu;obtain⟨cs,rfl,hr⟩:=hu;simp only [RdV] at hr;obtain⟨hr,hU⟩:=hr;obtain⟨ys,c,zs,rfl,h1,h2,_⟩:=hr.part (i:=n.toNat) ω;rw [rF ω] at hag⊢;obtain⟨v,k1,k2⟩:=ybu (P:=P) hd hi (pre:=ys) (post:=zs) h2 (by rw [hU _ (List.getElem_mem _),hs]) hag;rw [h1,xju hU ω,hs] at k1;exact⟨v,by simp [Instr.index,run_underlying hT,asIntOf,Go.sizeOf,typeInfo,hi,k1,h0,hm],k2⟩
 ·exact h.elim
theorem ym9 (R:Rel cx E σ a w) {T e:TypeId} {f:TypeInfo} (hT:P.underlying T=some (.slice e)) (hi:P.info? e=some f) {k:IntKind} {n:Int} {u:V} {p:Value} (hu:RdT E w u p) (h:(xgj f.size σ n u).2):
  ∃z,(Instr.indexAt T p (.int k n)).run P w=.ok z w∧RdT E w (xgj f.size σ n u).1 z:=by
 have key:∀(b o l c:Nat),0≤n→n<(l:Int)→(Instr.indexAt T (.slice (some ⟨b,o,none⟩) l c) (.int k n)).run P w=.ok (.pointer (some ⟨b,o+n.toNat*f.size,none⟩)) w:=by
  intro b o l c h0 hl;simp [Instr.indexAt,run_underlying hT,asIntOf,Go.sizeOf,typeInfo,hi,h0,hl,xdj]
 unfold xgj at h⊢;split at h
 ·obtain⟨hs,h0,hl⟩:=h
  simp only [RdT,RdV] at hu;obtain⟨hp,hU,A,c,h1,h2,h3,h4⟩:=hu;simp at h1;subst h1;obtain⟨b,o,xs,rfl,k1,k2,k3,k4⟩:=h4 ω;refine⟨_,key b o _ c h0 hl,?_⟩;obtain⟨c',m1,m2⟩:=xo3 k4 k3 (j:=n.toNat) ω;rw [xju hU ω,hs] at m1;rw [rF ω];exact xj9 (pures_iff.1 hp _ (List.getElem_mem _)) k1 m2 m1
 ·rename_i r g
  obtain⟨hg,hs,h0,hl⟩:=h;obtain⟨_,e',lv,s,l,xs,h1,_,h2,h3,h4,_,_,_,h5,_⟩:=xec R hu hg;rw [h3] at hl;rcases h5.2 with ⟨rfl,hn⟩|⟨b,cap,cur,rfl,_⟩
  ·omega
  ·refine⟨_,key b 0 _ _ h0 hl,?_⟩
   rw [Nat.zero_add];exact xj8 (g':=0) h4 rfl
 ·exact h.elim
theorem ym8 (R:Rel cx E σ a w) {T e:TypeId} {m:Nat} {f:TypeInfo} (hT:P.underlying T=some (.array m e)) (hi:P.info? e=some f) {k:IntKind} {n:Int} {u:V} {p:Value} (hu:RdT E w u p) (h:(xgi m f.size σ n u).2):
  ∃z,(Instr.indexAt T p (.int k n)).run P w=.ok z w∧RdT E w (xgi m f.size σ n u).1 z:=by
 have key:∀(b o:Nat),0≤n→n<(m:Int)→(Instr.indexAt T (.pointer (some ⟨b,o,none⟩)) (.int k n)).run P w=.ok (.pointer (some ⟨b,o+n.toNat*f.size,none⟩)) w:=by
  intro b o h0 hl;simp [Instr.indexAt,run_underlying hT,asIntOf,Go.sizeOf,typeInfo,hi,h0,hl,xdj,Instr.sureAddr]
 unfold xgi at h⊢;split at h
 ·obtain⟨hg,h0,hl⟩:=h
  obtain⟨ob,u0,b,xs,k1,k2,k3,k4,k5,k6,rfl,k8,k9⟩:=xfg R hu hg;exact⟨_,key b _ h0 hl,xj8 (g':=0) k4 k6⟩
 ·obtain⟨hs,hl,h0,hm⟩:=h
  obtain⟨h1,b,o,xs,rfl,h3,h4,h5⟩:=xmz hu;simp only [RdV] at h4;refine⟨_,key b o h0 hm,?_⟩;obtain⟨c',m1,m2⟩:=xo3 h5 h4.1 (j:=n.toNat) ω;rw [xju h4.2 ω,hs] at m1;simp only [V.pure] at h1;rw [rF ω];exact xj9 (pures_iff.1 h1 _ (List.getElem_mem _)) h3 m2 m1
 ·exact h.elim
theorem yn6 (R:Rel cx E σ a w) {T e y:TypeId} (hT:P.underlying T=some (.slice e)) {u:V} {p:Value} (hu:RdT E w u p) (h:(xgn σ u).2):
  ∃z,(Builtin.len_ #[T] y #[p]).run P w=.ok z w∧RdT E w (xgn σ u).1 z:=by
 have key:∀A l c,(Builtin.len_ #[T] y #[.slice A l c]).run P w=.ok (.int .i64 l) w:=by
  intro A l c;simp [Builtin.len_,run_underlying hT,goInt]
 have inl:∀l:Nat,l≤140737488355328→jE .i64 (l:Int):=fun l hl=>xl7 ω ω;unfold xgn at h⊢;split at h
 ·simp only [RdT,RdV] at hu
  obtain⟨_,_,A,c,h1,_,h3,_⟩:=hu;simp at h1;subst h1;exact⟨_,key _ _ _,oC (inl _ h3)⟩
 ·simp only [RdT,RdV] at hu
  simp at hu;subst hu;exact⟨_,key _ _ _,oC (inl 0 ω)⟩
 ·obtain⟨_,e',lv,s,l,xs,h1,_,h2,h3,h4,_,_,h6,h5,_⟩:=xec R hu h
  rw [h3];rcases h5.2 with ⟨rfl,hn⟩|⟨b,cap,cur,rfl,_⟩
  ·rw [hn];exact⟨_,key _ _ _,oC (inl 0 ω)⟩
  ·exact⟨_,key _ _ _,oC (inl _ h6)⟩
 ·exact h.elim
theorem yl6 {j:Nat} {u:V} {p:Value} (hu:RdT E w u p) (h:(xid j u).2):∃z,(Instr.extract p j).run P w=.ok z w∧RdT E w (xid j u).1 z:=by
 have key:∀(l:List V) (vs:List Value) (j:Nat),RdTs E w l vs→∀hj:j<l.length,∃z,vs[j]?=some z∧RdT E w l[j] z:=by
  intro l
  induction l with
  |nil=>intro vs j _ hj;simp at hj
  |cons x l ih=>
   intro vs j h hj;simp only [RdTs] at h;obtain⟨v,ys,rfl,h1,h2⟩:=h;cases j with
   |zero=>exact⟨v,rfl,h1⟩
   |succ j=>obtain⟨z,k1,k2⟩:=ih ys j h2 (by simpa using hj);exact⟨z,by simpa using k1,by simpa using k2⟩
 unfold xid at h⊢;split at h
 ·simp only [RdT] at hu
  obtain⟨vs,rfl,h1⟩:=hu;obtain⟨z,k1,k2⟩:=key _ _ j h1 h;exact⟨z,by simp [Instr.extract,k1],by rw [rF h];exact k2⟩
 ·exact h.elim
theorem yrb {c u v:V} {p q r:Value} (hc:RdT E w c p) (hu:RdT E w u q) (hv:RdT E w v r) (h:(xji c u v).2):∃z,(do pure (.value (if ←asBool p then q else r)):Sem Next).run P w=.ok (.value z) w∧RdT E w (xji c u v).1 z:=by
 unfold xji at h⊢;split at h
 ·obtain rfl:=xca hc
  exact⟨q,by simp [asBool],hu⟩
 ·obtain rfl:=xca hc
  exact⟨r,by simp [asBool],hv⟩
 ·exact h.elim
theorem yet:∀{l:List V} {xs:List Value},l.all xgm=true→RdL E w l xs→xs=(l.map xa6).map (Value.int .u8)∧∀n∈l.map xa6,jE .u8 n
 |[],xs,_,h=>by simp only [RdL] at h;simp [h]
 |x::l,xs,hu,h=>by
  simp only [List.all_cons,Bool.and_eq_true] at hu;simp only [RdL] at h;obtain⟨c,ys,rfl,h1,h2⟩:=h;obtain⟨k1,k2⟩:=yet hu.2 h2;have hx:∃n,x=.int .u8 n:=by
   have:=hu.1;unfold xgm at this;split at this
   ·exact⟨_,rfl⟩
   ·cases this
  obtain⟨n,rfl⟩:=hx;simp only [RdV] at h1;refine⟨by rw [h1.1,k1];simp [xa6],fun m hm=>?_⟩;simp only [List.map_cons,List.mem_cons,xa6] at hm;rcases hm with rfl|hm
  ·exact h1.2
  ·exact k2 m hm
theorem yvt {src e dst:TypeId} (hs:P.underlying src=some (.slice e)) (he:P.underlying e=some (.int .u8)) (hd:P.underlying dst=some .string) {u:V} {p:Value} (hu:RdT E w u p) (h:(xhi u).2):∃z,(convert src dst p).run P w=.ok z w∧RdT E w (xhi u).1 z:=by
 unfold xhi at h⊢;split at h
 ·rename_i t s l
  obtain⟨rfl,h8⟩:=h;simp only [RdT,RdV] at hu;obtain⟨hp,hU,A,c,h1,h2,h3,h4⟩:=hu;simp at h1;subst h1;have hsl:SlV (Sh.int .u8) (fun _=>True) w (l.map xa6) (.slice A (l.map xa6).length c):=by
   refine⟨A,c,rfl,by simpa using h2,by simpa using h3,fun h0=>?_⟩;obtain⟨b,o,xs,rfl,_,_,hr,ha⟩:=h4 (by simpa using h0);obtain⟨e1,e2⟩:=yet h8 hr;have hlt:b<w.heap.size:=by
    have h0':0<(l.map xa6).length:=h0;have:=ha 0 (.int .u8 ((l.map xa6)[0]'h0')) (by rw [e1,List.getElem?_map,List.getElem?_eq_getElem h0'];rfl);exact World.block_lt_of_cell? w _ this
   refine⟨b,o,rfl,trivial,hlt,fun i hi=>⟨_,⟨rfl,e2 _ (List.getElem_mem hi)⟩,fun j v hv=>?_⟩⟩;cases j with
   |zero=>
    simp at hv;subst hv;have:=ha i (.int .u8 ((l.map xa6)[i]'hi)) (by rw [e1,List.getElem?_map,List.getElem?_eq_getElem hi];rfl);simpa [Sh.int] using this
   |succ j=>simp at hv
  have:=yd9 (P:=P) src e dst hs he hd hsl;refine⟨_,by simpa using this,?_⟩;simp [RdT,RdV]
 ·simp only [RdT,RdV] at hu
  simp at hu;subst hu;have:=yd9 (P:=P) src e dst hs he hd (SlV.nil (Sh.int .u8) (fun _=>True) w);exact⟨_,this,by simp [RdT,RdV]⟩
 ·exact h.elim
theorem xn8 {t:TypeId} {d:TypeDesc} (h:P.underlying t=some d) (hd:tN d=false) {cs:Array Value} {off:Nat} {v:Value} (hx:cs[off]?=some v):(part t cs off).run P w=.ok v w:=by
 unfold part isAgg;cases d<;>simp [tN] at hd<;>simp [run_underlying h,hx]
theorem xp8 {d:Nat}:∀{fs:List Field} {ks:List (Option IntKind)} {i:Nat} (_:xii P i fs=some ks) {a b:List V} {px py xs ys:List Value},px.length=i→py.length=i→RdL E w a xs→RdL E w b ys→(vH ks a b).2→
  (Op.eqFields (d+1) (px++xs).toArray (py++ys).toArray fs).run P w=.ok (vH ks a b).1 w
 |[],ks,i,hk,a,b,px,py,xs,ys,_,_,_,_,h=>by
  simp only [xii,Option.some.injEq] at hk;subst hk;unfold vH at h⊢;split at h
  ·simp [Op.eqFields]
  ·rename_i e1 _ _;cases e1
  ·rename_i e1 _ _;cases e1
  ·exact h.elim
 |f::fs,ks,i,hk,a,b,px,py,xs,ys,hpx,hpy,ha,hb,h=>by
  simp only [xii] at hk;split at hk
  ·rename_i hf
   have key:∀{u v:Value} {xs' ys':List Value},(px++(u::xs')).toArray[f.offset]?=some u∧(py++(v::ys')).toArray[f.offset]?=some v:=by
    intro u v xs' ys';rw [hf.2];constructor
    ·simp [←hpx]
    ·simp [←hpy]
   split at hk
   ·rename_i k l hu hl
    cases hk;unfold vH at h⊢;split at h
    ·rename_i e;cases e
    ·rename_i ks' k1 m a' k2 n b' e1
     cases e1;obtain⟨rfl,h⟩:=h;simp only [RdL,RdV] at ha hb;obtain⟨c,xs',rfl,⟨rfl,_⟩,ha⟩:=ha;obtain⟨c',ys',rfl,⟨rfl,_⟩,hb⟩:=hb;have ih:=xp8 (d:=d) hl (px:=px++[.int k1 m]) (py:=py++[.int k1 n]) (by simp [hpx]) (by simp [hpy]) ha hb h;have kk:=key (u:=.int k1 m) (v:=.int k1 n) (xs':=xs') (ys':=ys');simp only [List.cons_append,List.nil_append,List.append_assoc] at ih⊢;simp only [Op.eqFields,if_pos hf.1,Sem.run_bind,xn8 (P:=P) (w:=w) hu rfl kk.1,xn8 (P:=P) (w:=w) hu rfl kk.2,Result.andThen_ok,run_equalIn_int w d f.type k1 k m n hu];by_cases e:m=n
     ·subst e
      simp [ih]
     ·simp [e]
    ·rename_i e1;cases e1
    ·exact h.elim
   ·rename_i l hu hl
    cases hk;unfold vH at h⊢;split at h
    ·rename_i e;cases e
    ·rename_i e1;cases e1
    ·rename_i ks' m a' n b' e1
     cases e1;simp only [RdL,RdV] at ha hb;obtain⟨c,xs',rfl,rfl,ha⟩:=ha;obtain⟨c',ys',rfl,rfl,hb⟩:=hb;have ih:=xp8 (d:=d) hl (px:=px++[.bool m]) (py:=py++[.bool n]) (by simp [hpx]) (by simp [hpy]) ha hb h;have kk:=key (u:=.bool m) (v:=.bool n) (xs':=xs') (ys':=ys');simp only [List.cons_append,List.nil_append,List.append_assoc] at ih⊢;simp only [Op.eqFields,if_pos hf.1,Sem.run_bind,xn8 (P:=P) (w:=w) hu rfl kk.1,xn8 (P:=P) (w:=w) hu rfl kk.2,Result.andThen_ok,run_equalIn_bool' w d f.type m n hu];by_cases e:m=n
     ·subst e
      simp [ih]
     ·simp [e]
    ·exact h.elim
   ·cases hk
  ·cases hk
theorem yjz {op:BinOp} {T:TypeId} {x y:Operand} {neg:Bool} {ks:List (Option IntKind)} (he:xp9 P T op=some (neg,ks)) {u v:V} {p q:Value} (hu:RdT E w u p) (hv:RdT E w v q) (h:(xi5 neg ks u v).2):
  ∃z,(do eqGuard op T x y p q;binOp op T p q:Sem Value).run P w=.ok z w∧RdT E w (xi5 neg ks u v).1 z:=by
 unfold xi5 at h⊢;split at h
 ·rename_i a b
  simp only [RdT,RdV] at hu hv;obtain⟨cs,rfl,hu⟩:=hu;obtain⟨ds,rfl,hv⟩:=hv;have hfl:xkz P T=some ks∧((op=.eql∧neg=false)∨(op=.neq∧neg=true)):=by
   cases op<;>simp only [xp9,Option.map_eq_some_iff,Prod.mk.injEq,reduceCtorEq] at he
   ·obtain⟨l,h1,h2,h3⟩:=he
    subst h3;exact⟨h1,.inl ⟨rfl,h2.symm⟩⟩
   ·obtain⟨l,h1,h2,h3⟩:=he
    subst h3;exact⟨h1,.inr ⟨rfl,h2.symm⟩⟩
  obtain⟨hfk,hop⟩:=hfl;unfold xkz at hfk;split at hfk
  ·rename_i fs hT
   split at hfk
   ·rename_i hg
    have hfo:P.fieldsOf T=fs:=by unfold Program.fieldsOf;rw [hT]
    have hrun:=xp8 (P:=P) (E:=E) (w:=w) (d:=9998) hfk (px:=[]) (py:=[]) rfl rfl hu hv h;simp only [List.nil_append] at hrun;have heq:(Op.equalIn 10000 T (.agg cs.toArray) (.agg ds.toArray)).run P w=.ok (vH ks a b).1 w:=by
     rw [show(10000:Nat)=9999+1 from rfl,run_equalIn_agg w 9999 T _ _ (by rw [hfo];exact hT) hg.2,hfo];exact hrun
    rcases hop with ⟨rfl,rfl⟩|⟨rfl,rfl⟩
    ·refine⟨.bool (vH ks a b).1,?_,yY _⟩
     simp only [Sem.run_bind,run_eqGuard_agg w .eql T x y _ _ hg.1,Result.andThen_ok,run_eql_struct,heq]
    ·refine⟨.bool (!(vH ks a b).1),?_,yY _⟩
     simp only [Sem.run_bind,run_eqGuard_agg w .neq T x y _ _ hg.1,Result.andThen_ok,run_neq_struct,heq]
   ·cases hfk
  ·cases hfk
 ·exact h.elim
theorem ybh {o:Oper} {m:POp} (hc:xbp P o.op=some m) (R:Rel cx E σ a w) (h:(iF σ m).2):∃v,(execOp a.eval o).run P w=.ok (.value v) w∧RdT E w (iF σ m).1 v:=by
 obtain⟨dst,op,ty,pos,after,guard⟩:=o;simp only at hc;unfold xbp at hc;split at hc
 case h_1=>
  simp only [Option.map_eq_some_iff] at hc;obtain⟨x,hx,rfl⟩:=hc;exact⟨_,rfl,dX R hx⟩
 case h_2=>
  simp only [Option.map_eq_some_iff] at hc;obtain⟨x,hx,rfl⟩:=hc;exact⟨_,rfl,dX R hx⟩
 case h_3=>
  split at hc
  ·rename_i neg ks he
   simp only [Option.map_eq_some_iff,Option.bind_eq_some_iff] at hc;obtain⟨x,hx,y,hy,rfl⟩:=hc;obtain⟨z,h1,h2⟩:=yjz (P:=P) (x:=_) (y:=_) he (dX R hx) (dX R hy) h;refine⟨z,?_,h2⟩;simp only [execOp];rw [Sem.run_bind]
   erw [h1]
   rfl
  simp only [Option.map_eq_some_iff,Option.bind_eq_some_iff] at hc;obtain⟨x,hx,y,hy,rfl⟩:=hc;obtain⟨z,h1,h2⟩:=ygc (P:=P) (x:=_) (y:=_) (dX R hx) (dX R hy) h;refine⟨z,?_,h2⟩;simp only [execOp];rw [Sem.run_bind]
  erw [h1]
  rfl
 case h_4=>
  simp only [Option.map_eq_some_iff] at hc;obtain⟨x,hx,rfl⟩:=hc;obtain⟨z,h1,h2⟩:=ywy (P:=P) (dX R hx) h;exact⟨z,by simp only [execOp,Sem.run_bind,h1,Result.andThen_ok,Sem.run_pure],h2⟩
 case h_5=>
  simp only [Option.map_eq_some_iff,Option.bind_eq_some_iff] at hc;obtain⟨c,hcc,x,hx,y,hy,rfl⟩:=hc;obtain⟨z,h1,h2⟩:=yrb (P:=P) (dX R hcc) (dX R hx) (dX R hy) h;exact⟨z,h1,h2⟩
 case h_6=>
  split at hc
  ·rename_i h1 h2
   simp only [Option.map_eq_some_iff] at hc;obtain⟨x,hx,rfl⟩:=hc;obtain⟨k,n,e1,_,e2⟩:=xje h;have hr:=dX R hx;rw [e1] at hr;obtain⟨e3,e4⟩:=rd_int hr;refine⟨.int _ (IntKind.wrap _ n),by simp only [execOp,e3,convert,Sem.run_bind,run_underlying h1,run_underlying h2,Result.andThen_ok,Conv.intToInt,Sem.run_pure];rfl,?_⟩;show RdT E w (uT _ _).1 _;rw [e2];exact oC (xal _ _)
  ·rename_i h1 h2
   split at hc
   ·rename_i h3
    simp only [Option.map_eq_some_iff] at hc;obtain⟨x,hx,rfl⟩:=hc;obtain⟨z,k1,k2⟩:=yvt (P:=P) h1 h3 h2 (dX R hx) h;exact⟨z,by simp only [execOp,Sem.run_bind,k1,Result.andThen_ok,Sem.run_pure],k2⟩
   ·cases hc
  ·cases hc
 case h_7=>
  simp only [Option.map_eq_some_iff] at hc;obtain⟨x,hx,rfl⟩:=hc;have hr:=dX R hx;have h':(xh3 σ (x.ev σ)).2:=h;show ∃v,_∧RdT E w (xh3 σ (x.ev σ)).1 v;unfold xh3 at h'⊢;split at h'
  ·rename_i e1
   rw [e1] at hr;obtain⟨ob,u0,b,xs,k1,k2,k3,k4,k5,k6,e2,k8,k9⟩:=xfg R hr h';refine⟨_,?_,hr⟩;rw [e2];simp only [execOp,e2,Sem.run_pure]
  ·rename_i e1
   rw [e1] at hr;obtain⟨h1,b,o,xs,e2,h3,h4,h5⟩:=xmz hr;refine⟨_,?_,hr⟩;rw [e2];simp only [execOp,e2,Sem.run_pure]
  ·exact h'.elim
 case h_8=>
  split at hc
  ·rename_i h1 h2
   simp only [Option.map_eq_some_iff] at hc;obtain⟨x,hx,rfl⟩:=hc;obtain⟨z,k1,k2⟩:=xxu (P:=P) R h1 h2 (dX R hx) h;exact⟨z,by simp only [execOp,Sem.run_bind,k1,Result.andThen_ok,Sem.run_pure],k2⟩
  ·cases hc
 case h_9=>
  split at hc
  ·rename_i h1
   split at hc
   ·rename_i h2
    split at hc
    ·rename_i h3
     split at hc
     ·cases hc
     ·rename_i h4
      simp only [Option.map_eq_some_iff] at hc;obtain⟨x,hx,rfl⟩:=hc;obtain⟨z,k1,k2⟩:=yl9 (P:=P) R h1 h2 h3 h4 (dX R hx) h;exact⟨z,by simp only [execOp,Sem.run_bind,k1,Result.andThen_ok,Sem.run_pure],k2⟩
    ·cases hc
   ·cases hc
  ·cases hc
 case h_10=>
  split at hc
  ·rename_i h1
   split at hc
   ·rename_i h2
    split at hc
    ·rename_i h3 h4
     simp only [Option.map_eq_some_iff] at hc;obtain⟨x,hx,rfl⟩:=hc;obtain⟨z,k1,k2⟩:=yla (P:=P) h1 h2 h3 h4 (dX R hx) h;exact⟨z,by simp only [execOp,Sem.run_bind,k1,Result.andThen_ok,Sem.run_pure],k2⟩
    ·cases hc
   ·cases hc
  ·cases hc
 case h_11=>
  split at hc
  ·rename_i h1
   split at hc
   ·rename_i h2
    simp only [Option.map_eq_some_iff,Option.bind_eq_some_iff] at hc;obtain⟨x,hx,y,hy,rfl⟩:=hc;obtain⟨k,n,e1,e3,e2⟩:=xje h;have hr:=dX R hy;rw [e1] at hr;obtain⟨e4,_⟩:=rd_int hr;obtain⟨z,k1,k2⟩:=ym9 (P:=P) R h1 h2 (k:=k) (dX R hx) e3;refine⟨z,by simp only [execOp,Sem.run_bind,e4,k1,Result.andThen_ok,Sem.run_pure],?_⟩;show RdT E w (uT _ _).1 _;rw [e2];exact k2
   ·cases hc
  ·rename_i h1
   split at hc
   ·rename_i h2
    simp only [Option.map_eq_some_iff,Option.bind_eq_some_iff] at hc;obtain⟨x,hx,y,hy,rfl⟩:=hc;obtain⟨k,n,e1,e3,e2⟩:=xje h;have hr:=dX R hy;rw [e1] at hr;obtain⟨e4,_⟩:=rd_int hr;obtain⟨z,k1,k2⟩:=ym8 (P:=P) R h1 h2 (k:=k) (dX R hx) e3;refine⟨z,by simp only [execOp,Sem.run_bind,e4,k1,Result.andThen_ok,Sem.run_pure],?_⟩;show RdT E w (uT _ _).1 _;rw [e2];exact k2
   ·cases hc
  ·cases hc
 case h_12=>
  split at hc
  ·rename_i h1
   split at hc
   ·rename_i h2 h3
    simp only [Option.map_eq_some_iff,Option.bind_eq_some_iff] at hc;obtain⟨x,hx,y,hy,rfl⟩:=hc;obtain⟨k,n,e1,e3,e2⟩:=xje h;have hr:=dX R hy;rw [e1] at hr;obtain⟨e4,_⟩:=rd_int hr;obtain⟨z,k1,k2⟩:=yma (P:=P) h1 h2 h3 (k:=k) (dX R hx) e3;refine⟨z,by simp only [execOp,Sem.run_bind,e4,k1,Result.andThen_ok,Sem.run_pure],?_⟩;show RdT E w (uT _ _).1 _;rw [e2];exact k2
   ·cases hc
  ·rename_i h1
   simp only [Option.map_eq_some_iff,Option.bind_eq_some_iff] at hc;obtain⟨x,hx,y,hy,rfl⟩:=hc;obtain⟨k,n,e1,e3,e2⟩:=xje h;have hr:=dX R hy;rw [e1] at hr;obtain⟨e4,_⟩:=rd_int hr;have hX:=dX R hx;have e3:(xf1 n (x.ev σ)).2:=e3;have e2:uT (fun k=>xf1 k (x.ev σ)) (y.ev σ)=xf1 n (x.ev σ):=by rw [e1];rfl
   show ∃v,_∧RdT E w (uT (fun k=>xf1 k (x.ev σ)) (y.ev σ)).1 v;rw [e2];unfold xf1 at e3⊢;split at e3
   ·rename_i s q1
    rw [q1] at hX;simp only [RdT,RdV,List.cons.injEq,and_true] at hX;have e3:0≤n∧n<(s.size:Int):=e3;have hlt:n.toNat<s.size:=ω;refine⟨.int .u8 (s[n.toNat]'hlt).toNat,by simp only [execOp,Sem.run_bind,e4,hX,run_index_string w _ s k n h1,dif_pos e3,Result.andThen_ok,Sem.run_pure],?_⟩;have e5:(s[n.toNat]?.getD 0)=s[n.toNat]'hlt:=by simp [hlt]
    rw [e5];refine oC ?_;have:=(s[n.toNat]'hlt).toNat_lt;unfold jE;simp [IntKind.min,IntKind.max,IntKind.signed,IntKind.bits];omega
   ·exact e3.elim
  ·cases hc
 case h_13=>
  simp only [Option.map_eq_some_iff] at hc;obtain⟨x,hx,rfl⟩:=hc;obtain⟨z,k1,k2⟩:=yl6 (P:=P) (dX R hx) h;exact⟨z,by simp only [execOp,Sem.run_bind,k1,Result.andThen_ok,Sem.run_pure],k2⟩
 case h_14 b as ts=>
  split at hc
  ·rename_i x t e1 e2
   obtain⟨as⟩:=as;obtain⟨ts⟩:=ts;simp only at e1 e2;subst e1 e2;split at hc
   ·rename_i h1
    simp only [Option.map_eq_some_iff] at hc;obtain⟨y,hx,rfl⟩:=hc;obtain⟨z,k1,k2⟩:=yn6 (P:=P) R (y:=ty) h1 (dX R hx) h;exact⟨z,by simp [execOp,resolve,invoke,builtin,k1],k2⟩
   ·rename_i h1
    simp only [Option.map_eq_some_iff] at hc;obtain⟨y,hx,rfl⟩:=hc;have hX:=dX R hx;have h':(xio (y.ev σ)).2:=h;show ∃v,_∧RdT E w (xio (y.ev σ)).1 v;unfold xio at h'⊢;split at h'
    ·rename_i q1
     rw [q1] at hX;simp only [RdT,RdV,List.cons.injEq,and_true] at hX;exact⟨_,by simp [execOp,resolve,invoke,builtin,Builtin.len_,run_underlying h1,goInt,hX],oC h'⟩
    ·exact h'.elim
   ·rename_i h1
    cases hc;exact⟨_,by simp [execOp,resolve,invoke,builtin,Builtin.len_,run_underlying h1,goInt],oC h⟩
   ·rename_i h1
    split at hc
    ·rename_i h2
     cases hc;exact⟨_,by simp [execOp,resolve,invoke,builtin,Builtin.len_,run_underlying h1,run_underlying h2,goInt],oC h⟩
    ·cases hc
   ·cases hc
  ·rename_i x y e1
   obtain⟨as⟩:=as;have e1:as=[x,y]:=e1;subst e1;simp only [Option.map_eq_some_iff,Option.bind_eq_some_iff] at hc;obtain⟨x',hx,y',hy,rfl⟩:=hc;have hX:=dX R hx;have hY:=dX R hy;have h':(mxV (x'.ev σ) (y'.ev σ)).2:=h;show ∃v,_∧RdT E w (mxV (x'.ev σ) (y'.ev σ)).1 v;unfold mxV at h'⊢;split at h'
   ·rename_i q1 q2
    rw [q1] at hX;rw [q2] at hY;obtain⟨r1,r2⟩:=rd_int hX;obtain⟨r3,r4⟩:=rd_int hY;subst h';exact⟨_,by simp [execOp,resolve,invoke,builtin,Builtin.max_,Builtin.max2,r1,r3],oC (by split<;>assumption)⟩
   ·exact h'.elim
  ·rename_i x y e1
   obtain⟨as⟩:=as;have e1:as=[x,y]:=e1;subst e1;simp only [Option.map_eq_some_iff,Option.bind_eq_some_iff] at hc;obtain⟨x',hx,y',hy,rfl⟩:=hc;have hX:=dX R hx;have hY:=dX R hy;have h':(mnV (x'.ev σ) (y'.ev σ)).2:=h;show ∃v,_∧RdT E w (mnV (x'.ev σ) (y'.ev σ)).1 v;unfold mnV at h'⊢;split at h'
   ·rename_i q1 q2
    rw [q1] at hX;rw [q2] at hY;obtain⟨r1,r2⟩:=rd_int hX;obtain⟨r3,r4⟩:=rd_int hY;subst h';exact⟨_,by simp [execOp,resolve,invoke,builtin,Builtin.min_,Builtin.min2,r1,r3],oC (by split<;>assumption)⟩
   ·exact h'.elim
  ·cases hc
 case h_15 f fst cap=>
  split at hc
  ·rename_i e
   subst e;simp only [Option.map_eq_some_iff] at hc;obtain⟨xs,hx,rfl⟩:=hc;have hX:=yD R hx;refine⟨.func (.func f) #[] (cap.map a.eval),by simp [execOp,Instr.makeFunc],?_⟩;show RdT E w (.clo (.fn f) (xs.map (X.ev σ))) _;simp only [RdT];exact⟨cap.toList.map a.eval,by show Value.func _ _ _=Value.func _ _ _;rw [←Array.toList_map,Array.toArray_toList],hX⟩
  ·split at hc
   ·rename_i x e1 e2
    simp only [Option.map_eq_some_iff] at hc;obtain⟨x',hx,rfl⟩:=hc;obtain⟨fst⟩:=fst;obtain⟨cap⟩:=cap;have e1:fst=[x]:=e1;have e2:cap=[]:=e2;subst e1 e2;have hX:=dX R hx;refine⟨.func (.func f) #[a.eval x] #[],by simp [execOp,Instr.makeFunc],?_⟩;show RdT E w (.clo (.bm f) [x'.ev σ]) _;simp only [RdT,RdTs];exact⟨[a.eval x],rfl,a.eval x,[],rfl,hX,rfl⟩
   ·cases hc
 case h_16=>cases hc
end
end Rdn.Dp
namespace Rdn.Dp
open Go Go.RowKit Rdn
inductive MOp where
 |box (T:TypeId) (x:X)
 |alloc (T:TypeId) (z:V)
 |build (ar:Option Nat) (z:List V) (ps:List (Nat×X))
 |buildS (e s:Nat) (z:V) (m:Nat) (ps:List (Nat×X))
 |store (n:Nat) (x y:X)
 |sl (s:Nat) (x:X) (lo hi mx:Option X)
 |slA (m s:Nat) (x:X) (lo hi mx:Option X)
 |mkS (e s b:Nat) (z:V) (x y:X)
 |app (e s b:Nat) (x y:X)
 |bytes (x:X)
 |copy (e s:Nat) (x y:X)
 |appz (e s b:Nat) (z:V) (x y:X)
 |mkM (t:Nat)
 |ins (t:Nat) (m k x:X)
 |lk (t:Nat) (x k:X)
def qZ (σ:AS):V×AS×Prop:=(.junk,σ,False)
def AS.upd (σ:AS) (r:Nat) (f:Ob→Ob):AS:={σ with ob:=match σ.ob[r]? with|some o=>σ.ob.set r (f o)|none=>σ.ob}
def Ob.freeze (o:Ob):Ob:={o with live:=false}
def xbv (σ:AS) (r:Nat):Prop:=match σ.ob[r]? with|some o=>o.live=true|none=>False
def kG:List V→List (Nat×V)→List V
 |l,[]=>l
 |l,(i,x)::ps=>kG (l.set i x) ps
def sS:List V→List (Nat×V)→Prop
 |_,[]=>True
 |l,(i,x)::ps=>i<l.length∧x.size=(l.getD i .junk).size∧(x.size≠0∨x.isAgg=true)∧sS (l.set i x) ps
def gB (σ:AS) (ps:List (Nat×X)):List (Nat×V):=ps.map fun p=>(p.1,p.2.ev σ)
def aW (d:Int) (σ:AS):Option X→Int×Prop
 |none=>(d,True)
 |some x=>match x.ev σ with
  | .int _ n=>(n,True)
  |_=>(0,False)
def xft (σ:AS) (n:Nat) (y:V):V→V×AS×Prop
 | .ptr r g p o=>(.junk,σ.upd r (fun ob=>{ob with v:=uU ob.v p y}),
   (oN σ r g).2∧xbv σ r∧(eU 0 (oN σ r g).1 p).2.2∧(eU 0 (oN σ r g).1 p).2.1=o∧(eU 0 (oN σ r g).1 p).1.size=n∧y.size=n∧(n≠0)∧(match σ.ob[r]? with|some ⟨.box _ _,_,_,_⟩=>True|some ⟨.rows _ _,_,_,_⟩=>p≠[]|_=>y.pure=true∧p≠[]))
 |_=>qZ σ
def slV (σ:AS) (s:Nat) (lo hi mx:Option X):V→V×AS×Prop
 | .sl t s' l=>(.sl t s ((l.take (aW l.length σ hi).1.toNat).drop (aW 0 σ lo).1.toNat),σ,
   s'=s∧(aW 0 σ lo).2∧(aW l.length σ hi).2∧(aW l.length σ mx).2∧0≤(aW 0 σ lo).1∧(aW 0 σ lo).1≤(aW l.length σ hi).1∧(aW l.length σ hi).1≤(aW l.length σ mx).1∧(aW l.length σ mx).1≤l.length∧(mx.isSome=true→hi.isSome=true))
 | .own r g=>(.sl true s (((bT σ r g).2.1.take (aW (bT σ r g).2.1.length σ hi).1.toNat).drop (aW 0 σ lo).1.toNat),σ.upd r Ob.freeze,
   (bT σ r g).2.2∧(bT σ r g).1=s∧(aW 0 σ lo).2∧(aW (bT σ r g).2.1.length σ hi).2∧(aW (bT σ r g).2.1.length σ mx).2∧0≤(aW 0 σ lo).1∧(aW 0 σ lo).1≤(aW (bT σ r g).2.1.length σ hi).1∧(aW (bT σ r g).2.1.length σ hi).1≤(aW (bT σ r g).2.1.length σ mx).1∧(aW (bT σ r g).2.1.length σ mx).1≤(bT σ r g).2.1.length∧(mx.isSome=true→hi.isSome=true))
 |_=>qZ σ
def xfq (σ:AS) (m s:Nat) (lo hi mx:Option X):V→V×AS×Prop
 | .ptr r g [] 0=>match (oN σ r g).1 with
  | .arr s' l=>(.sl true s ((l.take (aW m σ hi).1.toNat).drop (aW 0 σ lo).1.toNat),σ.upd r Ob.freeze,
    (oN σ r g).2∧(match σ.ob[r]? with|some ⟨.box false _,_,_,_⟩=>True|_=>False)∧s'=s∧0<s∧V.pures l=true∧l.length=m∧m≤140737488355328∧(aW 0 σ lo).2∧(aW m σ hi).2∧0≤(aW 0 σ lo).1∧(aW 0 σ lo).1≤(aW m σ hi).1∧(aW m σ hi).1≤m∧mx.isSome=false)
  |_=>qZ σ
 |_=>qZ σ
def jT (σ:AS) (r0:Nat):V→List V×Nat×Prop
 | .sl t s l=>(l,s,True)
 | .nilS=>([],0,True)
 | .own r g=>((bT σ r g).2.1,(bT σ r g).1,(bT σ r g).2.2∧r≠r0)
 |_=>([],0,False)
def mO (σ:AS) (r0:Nat):V→List V×Nat×Prop
 | .sl t s l=>(l,s,True)
 | .nilS=>([],0,True)
 | .own r g=>((gG σ r g).2.1,(gG σ r g).1,(gG σ r g).2.2∧r≠r0)
 |_=>([],0,False)
def eAt (σ:AS) (r e:Nat):Prop:=match σ.ob[r]? with|some ⟨.row e',_,_,_⟩=>e'=e|some ⟨.rows _ e',_,_,_⟩=>e'=e|_=>False
def xf9 (σ:AS) (r:Nat) (y:V):Prop:=match σ.ob[r]? with
 |some ⟨.rows _ _,_,_,_⟩=>True
 |_=>match y with
  | .own q _=>(match σ.ob[q]? with|some ⟨.row _,_,_,_⟩=>True|_=>False)
  |_=>True
def kOf:Bool→TypeId→OK
 |true,e=> .row e
 |false,e=> .rows false e
def xci (σ:AS) (e s b:Nat) (y:V):V→V×AS×Prop
 | .own r g=>(.own r (g+1),σ.upd r (fun o=>⟨o.k,o.live,g+1,.arr s ((gG σ r g).2.1++(mO σ r y).1)⟩),
   (gG σ r g).2.2∧xbv σ r∧eAt σ r e∧(gG σ r g).1=s∧(mO σ r y).2.2∧((mO σ r y).1=[]∨(mO σ r y).2.1=s)∧((gG σ r g).2.1.length+(mO σ r y).1.length)*b≤140737488355328∧(gG σ r g).2.1.length+(mO σ r y).1.length≤140737488355328∧xf9 σ r y)
 | .nilS=>(.own σ.ob.length 0,{σ with ob:=σ.ob++[⟨.row e,true,0,.arr s (jT σ σ.ob.length y).1⟩]},
   (jT σ σ.ob.length y).2.2∧((jT σ σ.ob.length y).1=[]∨(jT σ σ.ob.length y).2.1=s)∧(jT σ σ.ob.length y).1.length*b≤140737488355328∧(jT σ σ.ob.length y).1.length≤140737488355328)
 |_=>qZ σ
def xbm (σ:AS):V→V×AS×Prop
 | .str s=>(.sl false 1 (s.data.toList.map fun b=> .int .u8 b.toNat),σ,s.size≤140737488355328)
 |_=>qZ σ
def dV (σ:AS):MOp→V×AS×Prop
 | .box T x=>(.ptr σ.ob.length 0 [] 0,{σ with ob:=σ.ob++[⟨.box false T,true,0,x.ev σ⟩]},(x.ev σ).size≠0∨(x.ev σ).isAgg=true)
 | .alloc T z=>(.ptr σ.ob.length 0 [] 0,{σ with ob:=σ.ob++[⟨.box false T,true,0,z⟩]},True)
 | .build ar z ps=>(match ar with|none=> .agg (kG z (gB σ ps))|some s=> .arr s (kG z (gB σ ps)),σ,sS z (gB σ ps))
 | .buildS e s z m ps=>(.own σ.ob.length 0,{σ with ob:=σ.ob++[⟨.row e,true,0,.arr s (kG (List.replicate m z) (gB σ ps))⟩]},sS (List.replicate m z) (gB σ ps)∧V.pures (kG (List.replicate m z) (gB σ ps))=true)
 | .store n x y=>xft σ n (y.ev σ) (x.ev σ)
 | .sl s x lo hi mx=>slV σ s lo hi mx (x.ev σ)
 | .slA m s x lo hi mx=>xfq σ m s lo hi mx (x.ev σ)
 | .mkS e s b z x y=>match x.ev σ,y.ev σ with
  | .int _ l,.int _ c=>(.own σ.ob.length 0,{σ with ob:=σ.ob++[⟨.row e,true,0,.arr s (List.replicate l.toNat z)⟩]},0≤l∧l≤c∧(b:Int)*c≤140737488355328∧c≤140737488355328)
  |_,_=>qZ σ
 | .app e s b x y=>xci σ e s b (y.ev σ) (x.ev σ)
 | .bytes x=>xbm σ (x.ev σ)
 | .copy _ _ _ _=>qZ σ
 | .appz _ _ _ _ _ _=>qZ σ
 | .mkM _=>qZ σ
 | .ins _ _ _ _=>qZ σ
 | .lk _ _ _=>qZ σ
mutual
def qW:V→Option (List Value)
 | .int k n=>if k.min≤n∧n≤k.max then some [.int k n] else none
 | .bool b=>some [.bool b]
 | .str s=>some [.string s]
 | .nilS=>some [.slice none 0 0]
 | .agg l=>xel l
 | .arr s l=>if l.all (fun x=>x.size==s) then xel l else none
 |_=>none
def xel:List V→Option (List Value)
 |[]=>some []
 |x::l=>match qW x,xel l with
  |some c,some ys=>some (c++ys)
  |_,_=>none
end
def eqv:Value→Value→Bool
 | .int k n,.int k' n'=>decide (k=k') && decide (n=n')
 | .bool a,.bool b=>a==b
 | .string a,.string b=>decide (a=b)
 | .slice none 0 0,.slice none 0 0=>true
 |_,_=>false
def xga:List Value→List Value→Bool
 |[],[]=>true
 |a::l,b::m=>eqv a b && xga l m
 |_,_=>false
theorem yk0 {a b:Value} (h:eqv a b=true):a=b:=by
 unfold eqv at h;split at h
 ·simp at h;rw [h.1,h.2]
 ·simp at h;rw [h]
 ·simp at h;rw [h]
 ·rfl
 ·cases h
theorem xw3:∀{l m:List Value},xga l m=true→l=m
 |[],[],_=>rfl
 |a::l,b::m,h=>by
  simp only [xga,Bool.and_eq_true] at h;rw [yk0 h.1,xw3 h.2]
 |[],b::m,h=>by simp [xga] at h
 |a::l,[],h=>by simp [xga] at h
mutual
theorem yfl (E:Env) (w:World):∀{z:V} {cs:List Value},qW z=some cs→RdV E w z cs
 | .int k n,cs,h=>by
  simp only [qW] at h;split at h
  ·cases h;simp only [RdV];exact⟨trivial,by assumption⟩
  ·cases h
 | .bool b,cs,h=>by simp only [qW,Option.some.injEq] at h;simp [RdV,←h]
 | .nilS,cs,h=>by simp only [qW,Option.some.injEq] at h;simp [RdV,←h]
 | .agg l,cs,h=>by simp only [qW] at h;simp only [RdV];exact xte E w h
 | .arr s l,cs,h=>by
  simp only [qW] at h;split at h
  ·rename_i hu
   simp only [RdV];refine⟨xte E w h,fun x hx=>?_⟩;have:=List.all_eq_true.1 hu x hx;simpa using this
  ·cases h
 | .str _,cs,h=>by simp only [qW,Option.some.injEq] at h;simp [RdV,←h]
 | .sl _ _ _,cs,h=>by simp [qW] at h
 | .own _ _,cs,h=>by simp [qW] at h
 | .ptr _ _ _ _,cs,h=>by simp [qW] at h
 | .osl _ _ _ _ _,cs,h=>by simp [qW] at h
 | .rp _,cs,h=>by simp [qW] at h
 | .tup _,cs,h=>by simp [qW] at h
 | .clo f _,cs,h=>by simp [qW] at h
 | .fn _,cs,h=>by simp [qW] at h
 | .lit _,cs,h=>by simp [qW] at h
 | .junk,cs,h=>by simp [qW] at h
theorem xte (E:Env) (w:World):∀{l:List V} {cs:List Value},xel l=some cs→RdL E w l cs
 |[],cs,h=>by simp only [xel,Option.some.injEq] at h;simp [RdL,←h]
 |x::l,cs,h=>by
  simp only [xel] at h;split at h
  ·rename_i c ys h1 h2
   cases h;simp only [RdL];exact⟨c,ys,rfl,yfl E w h1,xte E w h2⟩
  ·cases h
end
theorem xtf {E:Env} {w:World} {z:V} {zc:Array Value} (h:RdV E w z zc.toList) (h0:0<zc.size):∀k,RdL E w (List.replicate k z) ((List.range (k*zc.size)).map (zc[· % zc.size]!))
 |0=>by simp [RdL]
 |k+1=>by
  have ih:=xtf h h0 k;rw [List.replicate_succ',Nat.add_mul,List.range_add,List.map_append,List.map_map];refine RdL.app ih ?_;simp only [RdL];refine⟨zc.toList,[],?_,h,rfl⟩;rw [List.append_nil];apply List.ext_getElem
  ·simp
  ·intro i h1 h2
   have hi:i<zc.size:=by simpa using h2
   have e:(k*zc.size+i) % zc.size=i:=by rw [Nat.mul_comm,Nat.mul_add_mod,Nat.mod_eq_of_lt hi]
   simp [e,hi]
section
variable (P:Program)
def xfy:Nat→TypeId→Option V
 |0,_=>none
 |f+1,t=>match P.underlying t with
  |some (.int k)=>some (.int k 0)
  |some .bool=>some (.bool false)
  |some .string=>some (.str ByteArray.empty)
  |some (.slice _)=>some .nilS
  |some (.struct fs)=>(fs.toList.mapM fun x=>xfy f x.type).map .agg
  |some (.array n e)=>match xfy f e,P.info? e with
   |some z,some i=>some (.arr i.size (List.replicate n z))
   |_,_=>none
  |_=>none
def tK (t:TypeId) (z:V):Bool:=match P.info? t with
 |some i=>match i.zero,qW z with
  |some v,some cs=>xga cs v.cells.toList
  |_,_=>false
 |none=>false
def yed (fs:List Field) (z:List V):Bool:=decide (fs.mapM (fun f=>(P.info? f.type).map fun i=>(f.offset,i.size))=some ((List.range z.length).map fun i=>(V.sizes (z.take i),(z.getD i .junk).size)))
def wY:List (Nat×Operand)→Option (List (Nat×X))
 |[]=>some []
 |(i,x)::l=>match dC x,wY l with
  |some y,some m=>some ((i,y)::m)
  |_,_=>none
def oK:Option Operand→Option (Option X)
 |none=>some none
 |some x=>(dC x).map some
def rC:Op→Option MOp
 | .box T x=>(dC x).map (.box T)
 | .alloc T=>match xfy P 8 T with
  |some z=>if tK P T z then some (.alloc T z) else none
  |none=>none
 | .build T ps=>match xfy P 8 T,P.underlying T with
  |some (.agg z),some (.struct fs)=>if tK P T (.agg z) && yed P fs.toList z then(wY ps.toList).map (.build none z) else none
  |some (.arr s z),some (.array n e)=>if tK P T (.arr s z) && decide ((P.info? e).map (·.size)=some s) then(wY ps.toList).map (.build (some s) z) else none
  |_,_=>none
 | .buildSlice T m ps=>match P.underlying T with
  |some (.slice e)=>match P.info? e,xfy P 8 e with
   |some i,some z=>if tK P e z && (decide (0<i.size) && (decide (m*i.size≤2 ^ 24) && decide (z.size=i.size))) then(wY ps.toList).map (.buildS e i.size z m) else none
   |_,_=>none
  |_=>none
 | .store T x y=>match P.info? T with
  |some i=>(dC x).bind fun x=>(dC y).map fun y=> .store i.size x y
  |none=>none
 | .slice T x lo hi mx=>match P.underlying T with
  |some (.slice e)=>match P.info? e with
   |some i=>(dC x).bind fun x=>(oK lo).bind fun lo=>(oK hi).bind fun hi=>(oK mx).map fun mx=> .sl i.size x lo hi mx
   |none=>none
  |some (.array n e)=>match P.info? e with
   |some i=>(dC x).bind fun x=>(oK lo).bind fun lo=>(oK hi).bind fun hi=>(oK mx).map fun mx=> .slA n i.size x lo hi mx
   |none=>none
  |_=>none
 | .makeSlice T x y=>match P.underlying T with
  |some (.slice e)=>match P.info? e,xfy P 8 e with
   |some i,some z=>if tK P e z && (decide (0<i.size) && decide (z.size=i.size)) then(dC x).bind fun x=>(dC y).map fun y=> .mkS e i.size i.bytes z x y else none
   |_,_=>none
  |_=>none
 | .call {callee:=.builtin b,args:=as,argTypes:=ts}=>match b,as.toList,ts.toList with
  | .append,[x,y],[t,t']=>if t=t' then match P.underlying t with
   |some (.slice e)=>match P.info? e with
    |some i=>match i.zero with
     |some z=>if z.cells.size=i.size∧0<i.size then(dC x).bind fun x=>(dC y).map fun y=> .app e i.size i.bytes x y else none
     |none=>none
    |none=>none
   |_=>none
   else match P.underlying t,P.underlying t' with
   |some (.slice e),some (.int _)=>match P.info? e,xfy P 8 e with
    |some i,some z=>if tK P e z && (decide (0<i.size) && decide (z.size=i.size)) then(dC x).bind fun x=>(dC y).map fun y=> .appz e i.size i.bytes z x y else none
    |_,_=>none
   |_,_=>none
  | .copy,[x,y],[t,t']=>if t=t' then match P.underlying t with
   |some (.slice e)=>match P.info? e with
    |some i=>if 0<i.size then(dC x).bind fun x=>(dC y).map fun y=> .copy e i.size x y else none
    |none=>none
   |_=>none
   else none
  |_,_,_=>none
 | .convert s d x=>match P.underlying s,P.underlying d with
  |some .string,some (.slice e)=>match P.underlying e with
   |some (.int .u8)=>(dC x).map .bytes
   |_=>none
  |_,_=>none
 | .makeMap T none=>match P.underlying T with
  |some (.map _ _)=>some (.mkM T)
  |_=>none
 | .insert T m k x=>match P.underlying T with
  |some (.map kt _)=>match P.underlying kt with
   |some (.int .i64)=>(dC m).bind fun m=>(dC k).bind fun k=>(dC x).map fun x=> .ins T m k x
   |_=>none
  |_=>none
 | .lookup T x k true=>match P.underlying T with
  |some (.map kt e)=>match P.underlying kt,P.info? e with
   |some (.int .i64),some i=>if i.zero.isSome then(dC x).bind fun x=>(dC k).map fun k=> .lk T x k else none
   |_,_=>none
  |_=>none
 |_=>none
end
theorem xk0 {P:Program} {t:TypeId} {z:V} (h:tK P t z=true) (E:Env) (w:World):∃i v,P.info? t=some i∧i.zero=some v∧RdV E w z v.cells.toList:=by
 unfold tK at h;split at h
 ·rename_i i hi
  split at h
  ·rename_i v cs hv hc
   exact⟨i,v,hi,hv,by rw [←xw3 h];exact yfl E w hc⟩
  ·cases h
 ·cases h
end Rdn.Dp
namespace Rdn.Dp
open Go Go.RowKit Rdn
theorem ydl:∀(c:List Value) (off k:Nat) (cells:Array Value) (pre old post:List Value),cells.toList=pre++(old++post)→old.length=c.length→pre.length=off+k→
  ((c.zipIdx k).foldl (fun cs x=>cs.setIfInBounds (off+x.2) x.1) cells).toList=pre++(c++post)
 |[],off,k,cells,pre,old,post,h,hl,_=>by
  obtain rfl:=List.eq_nil_of_length_eq_zero hl;simpa using h
 |x::c,off,k,cells,pre,old,post,h,hl,hp=>by
  cases old with
  |nil=>simp at hl
  |cons y old=>
   rw [List.zipIdx_cons,List.foldl_cons];have:=ydl c off (k+1) (cells.setIfInBounds (off+k) x) (pre++[x]) old post (by
    rw [Array.toList_setIfInBounds,h,←hp,List.set_append_right _ _ (Nat.le_refl _)];simp) (by simpa using hl) (by simp;omega)
   simpa using this
theorem yut {l:List V} {i:Nat} {x:V} (hi:i<l.length) (hx:x.size=(l.getD i .junk).size) (j:Nat):V.sizes ((l.set i x).take j)=V.sizes (l.take j)∧((l.set i x).getD j .junk).size=(l.getD j .junk).size:=by
 rw [rF hi] at hx;constructor
 ·by_cases hij:i<j
  ·rw [List.take_set]
   refine xss (by rw [List.length_take];omega) ?_;rw [hx,List.getElem_take]
  ·rw [List.take_set_of_le ω]
 ·simp only [List.getD_eq_getElem?_getD,List.getElem?_set]
  split
  ·rename_i e
   subst e;simp [hi,hx]
  ·rfl
def xdi (E:Env) (w:World):List (Nat×V)→List (Nat×Value)→Prop
 |[],vs=>vs=[]
 |p::ps,vs=>∃v vs',vs=(p.1,v)::vs'∧RdT E w p.2 v∧xdi E w ps vs'
theorem xkx {E:Env} {w:World} {place:Nat→Option (Nat×Nat)}:∀(ps:List (Nat×V)) (vs:List (Nat×Value)) (l:List V) (cells:Array Value),RdL E w l cells.toList→sS l ps→xdi E w ps vs→
  (∀i,i<l.length→place i=some (V.sizes (l.take i),(l.getD i .junk).size))→∃r,Instr.fill place cells vs=some r∧RdL E w (kG l ps) r.toList
 |[],vs,l,cells,h,_,hp,_=>by
  simp only [xdi] at hp;subst hp;exact⟨cells,rfl,h⟩
 |(i,x)::ps,vs,l,cells,h,hf,hp,hpl=>by
  simp only [sS] at hf;obtain⟨hi,hs,h0,hf⟩:=hf;simp only [xdi] at hp;obtain⟨v,vs,rfl,hv,hp⟩:=hp;have hV:=hv.toV h0;have hvl:=hV.len;obtain⟨pre,c,post,e,h1,h2,h3⟩:=h.part hi;have hcl:=h2.len;rw [rF hi] at hs;have hcs:cells.size=pre.length+(c.length+post.length):=by rw [←Array.length_toList,e];simp
  have hvs:v.cells.size=c.length:=by rw [hcl,←hs,←hvl];simp
  have hseg:=ydl v.cells.toList pre.length 0 cells pre c post e (by simp [hvs]) rfl;obtain⟨r,k1,k2⟩:=xkx (place:=place) ps vs (l.set i x) (v.cells.zipIdx.foldl (fun cs x=>cs.setIfInBounds (pre.length+x.2) x.1) cells) (by
   rw [←Array.foldl_toList,Array.toList_zipIdx,hseg];exact h3 (fun _ _ h=>h) x _ hV) hf hp (fun j hj=>by
    have:=yut (x:=x) hi (by rw [rF hi];exact hs) j;rw [this.1,this.2];exact hpl j (by simpa using hj))
  refine⟨r,?_,k2⟩;unfold Instr.fill;rw [hpl i hi];simp only [rF hi,←h1];rw [if_neg (by simp [hvs,hcs,hcl])];exact k1
section
variable {P:Program} {cx:Cx} {E:Env} {σ:AS} {a:Act} {w:World}
theorem xkf (R:Rel cx E σ a w):∀{ps:List (Nat×Operand)} {qs:List (Nat×X)},wY ps=some qs→xdi E w (gB σ qs) (ps.map fun(p:Nat×Operand)=>(p.1,a.eval p.2))
 |[],qs,h=>by simp only [wY,Option.some.injEq] at h;subst h;simp [gB,xdi]
 |(i,x)::l,qs,h=>by
  simp only [wY] at h;split at h
  ·rename_i y m h1 h2
   cases h;simp only [gB,List.map_cons,xdi];exact⟨_,_,rfl,dX R h1,xkf R h2⟩
  ·cases h
def nR (P:Program) (cx:Cx) (E:Env) (a:Act) (w:World) (o:Oper) (x:V) (σ':AS):Prop:=
 ∃v w' E',((execOp a.eval o).run P w=.ok (.value v) w'∨((execOp a.eval o).run P w=.ok .skip w'∧v=undef))∧Leads E w E' w'∧RdT E' w' x v∧Rel cx E' σ' a w'
theorem yav (R:Rel cx E σ a w) {e s:Nat} {l:List V} {cs:Array Value} {n c:Nat} (hn:n=l.length) (hc:n≤c) (hcs:cs.size=c*s) (hs:0<s) (hm:c≤140737488355328) (hp:V.pures l=true) (hU:Unif s l)
  (hr:RdL E w l (cs.toList.take (n*s))):
  Leads E w {E with ref:=E.ref++[(0,.slice (some ⟨w.heap.size,0,none⟩) n c)]} (w.alloc (.cells cs e))∧
   RdT {E with ref:=E.ref++[(0,.slice (some ⟨w.heap.size,0,none⟩) n c)]} (w.alloc (.cells cs e)) (.own σ.ob.length 0) (.slice (some ⟨w.heap.size,0,none⟩) n c)∧
   Rel cx {E with ref:=E.ref++[(0,.slice (some ⟨w.heap.size,0,none⟩) n c)]} {σ with ob:=σ.ob++[⟨.row e,true,0,.arr s l⟩]} a (w.alloc (.cells cs e)):=by
 subst hn;have hB:Below w.heap.size w (w.alloc (.cells cs e)):=(Below.refl _ _).alloc (Nat.le_refl _) _;have L:Leads E w {E with ref:=E.ref++[(0,.slice (some ⟨w.heap.size,0,none⟩) l.length c)]} (w.alloc (.cells cs e)):=by
  refine⟨fun b hb=>⟨hb,hB.block b (R.lt b hb)⟩,fun _ h=>h,by simp,fun r g u hr h=>⟨g,u,?_,Nat.le_refl _,fun _=>rfl⟩⟩;rw [List.getElem?_append_left hr] at h;exact h
 obtain⟨_,R'⟩:=R.new (w':=w.alloc (.cells cs e)) (o:=⟨.row e,true,0,.arr s l⟩) (u:=.slice (some ⟨w.heap.size,0,none⟩) l.length c) hB (fun b hb=>by simp [aP] at hb;omega) rfl rfl (by
  unfold OkO;refine⟨s,l,cs.toList.take (l.length*s),rfl,hp,hU,hs,ω,⟨?_,.inr ⟨w.heap.size,c,cs,rfl,R.keep.size,heap_alloc_new _ _,hc,by simp [maxLen];omega,hcs,rfl⟩⟩,hr.mono L,fun b hb=>?_⟩
  ·have:l.length*s≤c*s:=Nat.mul_le_mul_right _ hc
   have h2:cs.toList.length=c*s:=by rw [Array.length_toList,hcs]
   rw [List.length_take,h2];exact Nat.min_eq_left this
  ·simp only [aP,Option.some.injEq] at hb
   subst hb;simp only [if_true];intro hb;have:=R.lt _ hb;omega)
 refine⟨L,?_,R'⟩;simp only [RdT,RdV];refine⟨_,rfl,rfl,by simp [R.len],fun gc u h=>?_⟩;rw [←R.len,List.getElem?_append_right (Nat.le_refl _)] at h;simp at h;obtain⟨h1,h2⟩:=h;subst h1;exact⟨Nat.le_refl _,fun _=>h2⟩
theorem ype (R:Rel cx E σ a w) {e s:Nat} {l:List V} {cs:Array Value} {n c:Nat} (hn:n=l.length) (hc:n≤c) (hcs:cs.size=c*s) (hs:0<s) (hm:c≤140737488355328) (hU:Unif s l)
  (hr:RdL E w l (cs.toList.take (n*s))):
  Leads E w {E with ref:=E.ref++[(0,.slice (some ⟨w.heap.size,0,none⟩) n c)]} (w.alloc (.cells cs e))∧
   RdT {E with ref:=E.ref++[(0,.slice (some ⟨w.heap.size,0,none⟩) n c)]} (w.alloc (.cells cs e)) (.own σ.ob.length 0) (.slice (some ⟨w.heap.size,0,none⟩) n c)∧
   Rel cx {E with ref:=E.ref++[(0,.slice (some ⟨w.heap.size,0,none⟩) n c)]} {σ with ob:=σ.ob++[⟨.rows false e,true,0,.arr s l⟩]} a (w.alloc (.cells cs e)):=by
 subst hn;have hB:Below w.heap.size w (w.alloc (.cells cs e)):=(Below.refl _ _).alloc (Nat.le_refl _) _;have L:Leads E w {E with ref:=E.ref++[(0,.slice (some ⟨w.heap.size,0,none⟩) l.length c)]} (w.alloc (.cells cs e)):=by
  refine⟨fun b hb=>⟨hb,hB.block b (R.lt b hb)⟩,fun _ h=>h,by simp,fun r g u hr h=>⟨g,u,?_,Nat.le_refl _,fun _=>rfl⟩⟩;rw [List.getElem?_append_left hr] at h;exact h
 obtain⟨_,R'⟩:=R.new (w':=w.alloc (.cells cs e)) (o:=⟨.rows false e,true,0,.arr s l⟩) (u:=.slice (some ⟨w.heap.size,0,none⟩) l.length c) hB (fun b hb=>by simp [aP] at hb;omega) rfl rfl (by
  unfold OkO;refine⟨rfl,s,l,cs.toList.take (l.length*s),rfl,hU,hs,ω,⟨?_,.inr ⟨w.heap.size,c,cs,rfl,R.keep.size,heap_alloc_new _ _,hc,by simp [maxLen];omega,hcs,rfl⟩⟩,hr.mono L,fun b hb=>?_⟩
  ·have:l.length*s≤c*s:=Nat.mul_le_mul_right _ hc
   have h2:cs.toList.length=c*s:=by rw [Array.length_toList,hcs]
   rw [List.length_take,h2];exact Nat.min_eq_left this
  ·simp only [aP,Option.some.injEq] at hb
   subst hb;refine⟨fun hb=>?_,.inl R.keep.size⟩;have:=R.lt _ hb;omega)
 refine⟨L,?_,R'⟩;simp only [RdT,RdV];refine⟨_,rfl,rfl,by simp [R.len],fun gc u h=>?_⟩;rw [←R.len,List.getElem?_append_right (Nat.le_refl _)] at h;simp at h;obtain⟨h1,h2⟩:=h;subst h1;exact⟨Nat.le_refl _,fun _=>h2⟩
theorem yau (R:Rel cx E σ a w) {T:TypeId} {x:V} {cs:Array Value} (hx:RdV E w x cs.toList):
  Leads E w {E with ref:=E.ref++[(0,.pointer (some ⟨w.heap.size,0,none⟩))]} (w.alloc (.cells cs T))∧
   RdT {E with ref:=E.ref++[(0,.pointer (some ⟨w.heap.size,0,none⟩))]} (w.alloc (.cells cs T)) (.ptr σ.ob.length 0 [] 0) (.pointer (some ⟨w.heap.size,0,none⟩))∧
   Rel cx {E with ref:=E.ref++[(0,.pointer (some ⟨w.heap.size,0,none⟩))]} {σ with ob:=σ.ob++[⟨.box false T,true,0,x⟩]} a (w.alloc (.cells cs T)):=by
 have hB:Below w.heap.size w (w.alloc (.cells cs T)):=(Below.refl _ _).alloc (Nat.le_refl _) _;have L:Leads E w {E with ref:=E.ref++[(0,.pointer (some ⟨w.heap.size,0,none⟩))]} (w.alloc (.cells cs T)):=by
  refine⟨fun b hb=>⟨hb,hB.block b (R.lt b hb)⟩,fun _ h=>h,by simp,fun r g u hr h=>⟨g,u,?_,Nat.le_refl _,fun _=>rfl⟩⟩;rw [List.getElem?_append_left hr] at h;exact h
 obtain⟨_,R'⟩:=R.new (w':=w.alloc (.cells cs T)) (o:=⟨.box false T,true,0,x⟩) (u:=.pointer (some ⟨w.heap.size,0,none⟩)) hB (fun b hb=>by simp [aP] at hb;omega) rfl rfl (by
  unfold OkO;refine⟨w.heap.size,cs.toList,rfl,by simpa using heap_alloc_new _ _,hx.mono L,by simpa using R.keep.size,?_⟩;simp only [if_true];intro hb;have:=R.lt _ hb;omega)
 refine⟨L,?_,R'⟩;refine xj8 (g':=0) (u:=.pointer (some ⟨w.heap.size,0,none⟩)) ?_ rfl;rw [←R.len,List.getElem?_append_right (Nat.le_refl _)];simp
theorem Rel.freeze (R:Rel cx E σ a w) {r:Nat} {o:Ob} {u:Value} (hr:σ.ob[r]?=some o) (hu:E.ref[r]?=some (o.g,u)) (hk:∀b,aP u=some b→cx.W.heap.size≤b∧((match o.k with| .box _ _=>o.v.pure=true|_=>True))) (hr0:∀qq e,o.k≠.rows qq e:=by intro qq e h;cases h):
  Leads E w {E with B:=fun b=>E.B b∨aP u=some b} w∧Rel cx {E with B:=fun b=>E.B b∨aP u=some b} (σ.upd r Ob.freeze) a w:=by
 have L:Leads E w {E with B:=fun b=>E.B b∨aP u=some b} w:=⟨fun b hb=>⟨.inl hb,rfl⟩,fun _ h=>h,Nat.le_refl _,fun _ g u _ h=>⟨g,u,h,Nat.le_refl _,fun _=>rfl⟩⟩;obtain⟨u0,k1,k2⟩:=R.ob r o hr;rw [hu] at k1;injection k1 with k1
 injection k1 with _ k1
 subst k1;have rl:r<σ.ob.length:=(List.getElem?_eq_some_iff.1 hr).1;have hupd:(σ.upd r Ob.freeze).ob=σ.ob.set r o.freeze:=by simp [AS.upd,hr]
 refine⟨L,R.df,R.n,fun i=>(R.tm i).mono L,by rw [hupd];simp [R.len],fun r' o1 h1=>?_,fun r1 r2 o1 o2 g1 g2 u1 u2 b h1 h2 h3 h4 h5 h6 h7 h8 h9=>?_,fun b hb=>?_,R.fr,fun b hb hlt=>?_,R.keep⟩
 ·rw [hupd] at h1
  by_cases e:r=r'
  ·subst e
   rw [List.getElem?_set_self rl] at h1;obtain rfl:=Option.some.inj h1;refine⟨u,hu,?_⟩;unfold OkO at k2⊢;simp only [Ob.freeze];split at k2
   ·rename_i q T hkk
    obtain⟨b,cs,rfl,m1,m2,m3,m4⟩:=k2;obtain⟨n1,n2⟩:=hk b rfl;rw [hkk] at n2;refine⟨b,cs,rfl,m1,m2.mono L,m3,?_⟩;simp only [Bool.false_eq_true,if_false];exact⟨.inr rfl,(R.fr b).2 n1,n2⟩
   ·obtain⟨s,l,xs,m1,m2,m3,m4,m5,m6,m7,m8⟩:=k2
    exact⟨s,l,xs,m1,m2,m3,m4,m5,m6,m7.mono L,fun b hb=>by simp only [Bool.false_eq_true,if_false];exact .inr hb⟩
   ·rename_i qq e hkk
    exact(hr0 qq e hkk).elim
  ·rw [List.getElem?_set_ne e] at h1
   obtain⟨u1,m1,m2⟩:=R.ob r' o1 h1;refine⟨u1,m1,m2.keep L (fun _ _=>rfl) (fun hl b hb hnb hb'=>?_)⟩;rcases hb' with hb'|hb'
   ·exact hnb hb'
   ·cases hl0:o.live with
    |true=>exact R.sep r r' o o1 o.g o1.g u u1 b e hr h1 hl0 hl hu m1 hb' hb
    |false=>
     refine hnb ?_;unfold OkO at k2;split at k2
     ·obtain⟨b',cs,rfl,_,_,_,m4⟩:=k2
      simp only [aP,Option.some.injEq] at hb';subst hb';rw [hl0] at m4;simp only [Bool.false_eq_true,if_false] at m4;exact m4.1
     ·obtain⟨s,l,xs,n1,n2,n3,n4,n5,n6,n7,n8⟩:=k2
      have:=n8 b hb';rw [hl0] at this;simpa using this
     ·rw [k2.1] at hl0;cases hl0
 ·rw [hupd] at h2 h3
  by_cases e1:r=r1
  ·subst e1
   rw [List.getElem?_set_self rl] at h2;obtain rfl:=Option.some.inj h2;simp [Ob.freeze] at h4
  ·by_cases e2:r=r2
   ·subst e2
    rw [List.getElem?_set_self rl] at h3;obtain rfl:=Option.some.inj h3;simp [Ob.freeze] at h5
   ·rw [List.getElem?_set_ne e1] at h2
    rw [List.getElem?_set_ne e2] at h3;exact R.sep r1 r2 o1 o2 g1 g2 u1 u2 b h1 h2 h3 h4 h5 h6 h7 h8 h9
 ·rcases hb with hb|hb
  ·exact R.lt b hb
  ·exact k2.blk_lt hb
 ·rcases hb with hb|hb
  ·exact R.old b hb hlt
  ·have:=(hk b hb).1;omega
end
end Rdn.Dp
namespace Rdn.Dp
open Go Go.RowKit Rdn
section
variable {P:Program} {cx:Cx} {E:Env} {σ:AS} {a:Act} {w:World}
theorem Rel.allocO (R:Rel cx E σ a w) (ho:Obj):
  Leads E w {E with B:=fun b=>E.B b∨b=w.heap.size} (w.alloc ho)∧Rel cx {E with B:=fun b=>E.B b∨b=w.heap.size} σ a (w.alloc ho):=by
 have hB:Below w.heap.size w (w.alloc ho):=(Below.refl _ _).alloc (Nat.le_refl _) _;have L:Leads E w {E with B:=fun b=>E.B b∨b=w.heap.size} (w.alloc ho):=
  ⟨fun b hb=>⟨.inl hb,hB.block b (R.lt b hb)⟩,fun _ h=>h,Nat.le_refl _,fun _ g u _ h=>⟨g,u,h,Nat.le_refl _,fun _=>rfl⟩⟩
 refine⟨L,R.df,R.n,fun i=>(R.tm i).mono L,R.len,fun r o hr=>?_,R.sep,fun b hb=>?_,R.fr,fun b hb hlt=>?_,R.keep.trans (Keep.of_below (S:=cx.lent) hB)⟩
 ·obtain⟨u,k1,k2⟩:=R.ob r o hr
  refine⟨u,k1,k2.keep L (fun b hb=>hB.block b (k2.blk_lt hb)) (fun _ b hb hn hB'=>?_)⟩;rcases hB' with h|h
  ·exact hn h
  ·have:=k2.blk_lt hb;omega
 ·have hs:=hB.size
  rcases hb with hb|hb
  ·exact Nat.lt_of_lt_of_le (R.lt b hb) hs
  ·subst hb;simp
 ·rcases hb with hb|hb
  ·exact R.old b hb hlt
  ·have:=R.keep.size;omega
theorem Rel.allocB (R:Rel cx E σ a w) (cs:Array Value) (e:TypeId):
  Leads E w {E with B:=fun b=>E.B b∨b=w.heap.size} (w.alloc (.cells cs e))∧Rel cx {E with B:=fun b=>E.B b∨b=w.heap.size} σ a (w.alloc (.cells cs e)):=R.allocO (.cells cs e)
theorem yp7 {α:Type} (l:Array α) (x:α) (f:α→α):(l.push x).modify l.size f=l.push (f x):=by
 apply Array.ext
 ·simp
 ·intro i h1 h2
  rw [Array.getElem_modify];simp only [Array.getElem_push];by_cases h:i<l.size
  ·rw [dif_pos h,dif_pos h,if_neg ω]
  ·rw [dif_neg h,dif_neg h,if_pos (by simp at h2;omega)]
theorem ygs (w:World) (e:TypeId) (s:ByteArray):Lib.bytesWorld w e s=(w.drew).alloc (.cells (Lib.bytesCells w e s) e ((Lib.bytesCells w e s).size,(Lib.bytesCells w e s).size+1)):=by
 unfold Lib.bytesWorld World.freeze World.alloc;rw [if_neg δ];have:(w.drew).heap.size=w.heap.size:=rfl;simp only [←this,yp7];rfl
theorem xu5 (E:Env) (w:World):∀l:List UInt8,RdL E w (l.map fun b=>V.int .u8 b.toNat) (l.map fun b=>Value.int .u8 b.toNat)
 |[]=>by simp [RdL]
 |b::l=>by
  simp only [List.map_cons,RdL];exact⟨[_],_,rfl,by simp only [RdV];exact⟨trivial,ymc ω (by have:=b.toNat_lt;omega)⟩,xu5 E w l⟩
theorem xq1 (R:Rel cx E σ a w) {o:Oper} {x:V} {v:Value} (h:(execOp a.eval o).run P w=.ok (.value v) w) (hx:RdT E w x v):nR P cx E a w o x σ:=⟨v,w,E,.inl h,Leads.refl _ _,hx,R⟩
theorem ygq (l:List UInt8):V.pures (l.map fun b=>V.int .u8 b.toNat)=true:=by
 induction l with
 |nil=>rfl
 |cons b l ih=>simp only [List.map_cons,V.pures,V.pure,ih,Bool.and_self]
theorem ygr (R:Rel cx E σ a w) {o:Oper} {s d e:TypeId} {x:Operand} (ho:o.op=.convert s d x) {u:TypeDesc} (hs:P.underlying s=some u) (hd:P.underlying d=some (.slice e)) (he:P.underlying e=some (.int .u8)) {y:V} (hx:RdT E w y (a.eval x)) (h:(xbm σ y).2.2):nR P cx E a w o (xbm σ y).1 (xbm σ y).2.1:=by
 cases y with
 |str b=>
  have hv:a.eval x=.string b:=by simpa [RdT,RdV] using hx
  have hlen:(b.data.toList.map fun b=>V.int .u8 b.toNat).length=b.size:=by simp
  obtain⟨L,R'⟩:=R.drew.allocO (.cells (Lib.bytesCells w e b) e ((Lib.bytesCells w e b).size,(Lib.bytesCells w e b).size+1));refine⟨.slice (some ⟨w.heap.size,0,none⟩) b.size (grownCap w b.size 0 e),(w.drew).alloc (.cells (Lib.bytesCells w e b) e ((Lib.bytesCells w e b).size,(Lib.bytesCells w e b).size+1)),_,.inl ?_,(Leads.heap (E:=E) (w:=w) (w':={w with drawn:=w.drawn+1}) fun _ _=>rfl).trans L,?_,R'⟩
  ·rw [←ygs]
   simp only [execOp,ho,hv,Sem.run_bind,Lib.run_convert_string_bytes w s d e b hs hd he,Result.andThen_ok,Sem.run_pure]
  ·simp only [xbm,RdT,RdV]
   refine⟨ygq _,fun z hz=>?_,some ⟨w.heap.size,0,none⟩,grownCap w b.size 0 e,by rw [hlen],by rw [hlen];exact grownCap_ge w b.size 0 e,by rw [hlen];exact h,fun _=>⟨w.heap.size,0,b.data.toList.map fun b=>Value.int .u8 b.toNat,rfl,.inr rfl,(fun h=>by cases h),xu5 _ _ _,fun j v hj=>?_⟩⟩
   ·obtain⟨q,_,rfl⟩:=List.mem_map.1 hz
    rfl
   ·rw [Nat.zero_add]
    have hb:((w.drew).alloc (.cells (Lib.bytesCells w e b) e ((Lib.bytesCells w e b).size,(Lib.bytesCells w e b).size+1))).heap[w.heap.size]?=some (.cells (Lib.bytesCells w e b) e ((Lib.bytesCells w e b).size,(Lib.bytesCells w e b).size+1)):=xx1 (w.drew) _;unfold World.cell?;simp only [hb];have hj2:j<b.data.size:=by
     rcases Nat.lt_or_ge j b.data.size with h|h
     ·exact h
     ·rw [List.getElem?_eq_none (by simpa using h)] at hj;cases hj
    simp only [Lib.bytesCells];rw [Array.getElem?_append_left (by simpa using hj2)];simpa [Array.getElem?_map] using hj
 |_=>exact h.elim
theorem xt8:∀{ps:List (Nat×V)} {l:List V} {s:Nat},Unif s l→sS l ps→Unif s (kG l ps)
 |[],l,s,h,_=>h
 |(i,x)::ps,l,s,h,hf=>by
  simp only [sS] at hf;obtain⟨hi,hs,_,hf⟩:=hf;simp only [kG];refine xt8 (fun y hy=>?_) hf;rcases List.mem_or_eq_of_mem_set hy with hy|rfl
  ·exact h y hy
  ·rw [hs,rF hi];exact h _ (List.getElem_mem hi)
theorem xxo:∀(ps:List (Nat×V)) (l:List V),(kG l ps).length=l.length
 |[],l=>rfl
 |(i,x)::ps,l=>by simp [kG,xxo ps]
theorem yge (R:Rel cx E σ a w) {o:Oper} {T:TypeId} {x:Operand} (ho:o.op=.box T x) {u:V} (hu:RdT E w u (a.eval x)) (h:u.size≠0∨u.isAgg=true):
  nR P cx E a w o (.ptr σ.ob.length 0 [] 0) {σ with ob:=σ.ob++[⟨.box false T,true,0,u⟩]}:=by
 obtain⟨h1,h2,h3⟩:=yau R (T:=T) (hu.toV h);exact⟨_,_,_,.inl (by simp only [execOp,ho,Instr.box,newVar,newRow,Sem.run_bind,run_newObj,Result.andThen_ok,Sem.run_pure];rfl),h1,h2,h3⟩
theorem yfw (R:Rel cx E σ a w) {o:Oper} {T:TypeId} (ho:o.op=.alloc T) {z:V} (hz:tK P T z=true):
  nR P cx E a w o (.ptr σ.ob.length 0 [] 0) {σ with ob:=σ.ob++[⟨.box false T,true,0,z⟩]}:=by
 obtain⟨i,v,hi,hv,hr⟩:=xk0 hz E w;obtain⟨h1,h2,h3⟩:=yau R (T:=T) hr;exact⟨_,_,_,.inl (by simp [execOp,ho,Instr.alloc,zeroValue,typeInfo,hi,hv,newVar,newRow]),h1,h2,h3⟩
theorem xr0 (a:Act) (ps:Array (Nat×Operand)):(ps.map fun(i,x)=>(i,a.eval x)).toList=ps.toList.map fun(p:Nat×Operand)=>(p.1,a.eval p.2):=by
 rw [Array.toList_map]
theorem ygm (R:Rel cx E σ a w) {o:Oper} {T:TypeId} {ps:Array (Nat×Operand)} (ho:o.op=.build T ps) {fs:Array Field} {z:List V} {qs:List (Nat×X)} (hT:P.underlying T=some (.struct fs))
  (hz:tK P T (.agg z)=true) (hs:yed P fs.toList z=true) (hq:wY ps.toList=some qs) (hf:sS z (gB σ qs)):nR P cx E a w o (.agg (kG z (gB σ qs))) σ:=by
 obtain⟨i,v,hi,hv,hr⟩:=xk0 hz E w;simp only [RdV] at hr;have hs':=of_decide_eq_true hs;obtain⟨r,k1,k2⟩:=xkx (place:=fun x=>(((List.range z.length).map fun i=>(V.sizes (z.take i),(z.getD i .junk).size)).toArray)[x]?) _ _ z v.cells hr hf (xkf R hq) (fun j hj=>by simp [hj]);have hb:P.built T (ps.map fun(i,x)=>(i,a.eval x)).toList=some r:=by
  unfold Program.built;simp only [hi,hT,hv,hs',xr0];exact k1
 refine xq1 R (v:=.agg r) (by simp only [execOp,ho,Sem.run_bind,run_build w T _ r hb,Result.andThen_ok,Sem.run_pure]) ?_;simp only [RdT,RdV];exact⟨r.toList,by simp,k2⟩
theorem ygi (R:Rel cx E σ a w) {o:Oper} {T e:TypeId} {n s:Nat} {ps:Array (Nat×Operand)} (ho:o.op=.build T ps) {z:List V} {qs:List (Nat×X)} (hT:P.underlying T=some (.array n e)) (he:(P.info? e).map (·.size)=some s)
  (hz:tK P T (.arr s z)=true) (hq:wY ps.toList=some qs) (hf:sS z (gB σ qs)):nR P cx E a w o (.arr s (kG z (gB σ qs))) σ:=by
 obtain⟨i,v,hi,hv,hr⟩:=xk0 hz E w;simp only [RdV] at hr;obtain⟨ie,hie,rfl⟩:=Option.map_eq_some_iff.1 he;obtain⟨r,k1,k2⟩:=xkx (place:=fun i=>some (i*ie.size,ie.size)) _ _ z v.cells hr.1 hf (xkf R hq) (fun j hj=>by
  rw [xju hr.2 ω,rF hj,hr.2 _ (List.getElem_mem hj)])
 have hb:P.built T (ps.map fun(i,x)=>(i,a.eval x)).toList=some r:=by
  unfold Program.built;simp only [hi,hT,hv,hie,xr0];exact k1
 refine xq1 R (v:=.agg r) (by simp only [execOp,ho,Sem.run_bind,run_build w T _ r hb,Result.andThen_ok,Sem.run_pure]) ?_;simp only [RdT,RdV];exact⟨r.toList,by simp,k2,xt8 hr.2 hf⟩
theorem xu3 (R:Rel cx E σ a w) {o:Oper} {T e:TypeId} {m:Nat} {ps:Array (Nat×Operand)} (ho:o.op=.buildSlice T m ps) {i:TypeInfo} {z:V} {qs:List (Nat×X)} (hT:P.underlying T=some (.slice e)) (he:P.info? e=some i)
  (hz:tK P e z=true) (h0:0<i.size) (hm:m*i.size≤2 ^ 24) (hzs:z.size=i.size) (hq:wY ps.toList=some qs) (hf:sS (List.replicate m z) (gB σ qs)):
  ∃r:Array Value,(execOp a.eval o).run P w=.ok (.value (.slice (some ⟨w.heap.size,0,none⟩) m m)) (w.alloc (.cells r e))∧r.size=m*i.size∧RdL E w (kG (List.replicate m z) (gB σ qs)) r.toList∧Unif i.size (kG (List.replicate m z) (gB σ qs))∧(kG (List.replicate m z) (gB σ qs)).length=m∧m≤140737488355328:=by
 obtain⟨i',v,hi,hv,hr⟩:=xk0 hz E w;rw [he] at hi;obtain rfl:=Option.some.inj hi;have hvl:v.cells.size=i.size:=by have:=hr.len;simpa [hzs] using this
 have hU0:Unif i.size (List.replicate m z):=fun x hx=>by rw [List.eq_of_mem_replicate hx,hzs]
 have hU:=xt8 hU0 hf;have hlen:=xxo (gB σ qs) (List.replicate m z);rw [List.length_replicate] at hlen;have hm':m≤140737488355328:=by
  have:m*1≤m*i.size:=Nat.mul_le_mul_left _ h0;omega
 have hzr:RdL E w (List.replicate m z) (((Array.range (m*i.size)).map (v.cells[· % v.cells.size]!)).toList):=by
  have:=xtf hr (by rw [hvl];exact h0) m;rw [hvl] at this;simpa [hvl] using this
 obtain⟨r,k1,k2⟩:=xkx (place:=fun i'=>some (i'*i.size,i.size)) _ _ _ _ hzr hf (xkf R hq) (fun j hj=>by
  rw [xju hU0 ω,rF hj,hU0 _ (List.getElem_mem hj)])
 have hrs:r.size=m*i.size:=by
  have:=k2.len;rw [wP hU,hlen,Nat.mul_comm] at this;simpa using this
 refine⟨r,?_,hrs,k2,hU,hlen,hm'⟩;by_cases hm0:m=0
 ·subst hm0
  have hq0:qs=[]:=by
   cases qs with
   |nil=>rfl
   |cons q qs=>simp [gB,sS] at hf
  subst hq0;have hps:ps.toList=[]:=by
   cases hpp:ps.toList with
   |nil=>rfl
   |cons p l=>
    rw [hpp] at hq;obtain⟨i1,x1⟩:=p;simp only [wY] at hq;split at hq<;>simp at hq
  have hps':ps=#[]:=by rw [←Array.toArray_toList (xs:=ps),hps]
  subst hps';have hr0:r=#[]:=Array.eq_empty_of_size_eq_zero (by simpa using hrs);subst hr0;simp [execOp,ho,Instr.buildSlice,run_underlying hT,Go.sizeOf,typeInfo,he,Instr.fill,newRow,Array.range_zero']
 ·have:=run_buildSlice (P:=P) w T e m (ps.map fun(i,x)=>(i,a.eval x)) r i v hT he hv ω (by have:0<m*i.size:=Nat.mul_pos ω h0;omega) (by rw [xr0];exact k1)
  simp only [execOp,ho,Sem.run_bind,this,Result.andThen_ok,Sem.run_pure]
theorem xu4 (R:Rel cx E σ a w) {o:Oper} {T e:TypeId} {m:Nat} {ps:Array (Nat×Operand)} (ho:o.op=.buildSlice T m ps) {i:TypeInfo} {z:V} {qs:List (Nat×X)} (hT:P.underlying T=some (.slice e)) (he:P.info? e=some i)
  (hz:tK P e z=true) (h0:0<i.size) (hm:m*i.size≤2 ^ 24) (hzs:z.size=i.size) (hq:wY ps.toList=some qs) (hf:sS (List.replicate m z) (gB σ qs)) (hp:V.pures (kG (List.replicate m z) (gB σ qs))=true):
  nR P cx E a w o (.own σ.ob.length 0) {σ with ob:=σ.ob++[⟨.row e,true,0,.arr i.size (kG (List.replicate m z) (gB σ qs))⟩]}:=by
 obtain⟨r,hrun,hrs,k2,hU,hlen,hm'⟩:=xu3 R ho hT he hz h0 hm hzs hq hf;obtain⟨h1,h2,h3⟩:=yav R (e:=e) (s:=i.size) (l:=kG (List.replicate m z) (gB σ qs)) (cs:=r) (n:=m) (c:=m) hlen.symm (Nat.le_refl _) hrs h0 hm' hp hU (by
  rw [List.take_of_length_le (by simp [hrs])];exact k2)
 exact⟨_,_,_,.inl hrun,h1,h2,h3⟩
theorem xu2 (R:Rel cx E σ a w) {o:Oper} {T e:TypeId} {m:Nat} {ps:Array (Nat×Operand)} (ho:o.op=.buildSlice T m ps) {i:TypeInfo} {z:V} {qs:List (Nat×X)} (hT:P.underlying T=some (.slice e)) (he:P.info? e=some i)
  (hz:tK P e z=true) (h0:0<i.size) (hm:m*i.size≤2 ^ 24) (hzs:z.size=i.size) (hq:wY ps.toList=some qs) (hf:sS (List.replicate m z) (gB σ qs)):
  nR P cx E a w o (.own σ.ob.length 0) {σ with ob:=σ.ob++[⟨.rows false e,true,0,.arr i.size (kG (List.replicate m z) (gB σ qs))⟩]}∧∃cs,RdL E w (kG (List.replicate m z) (gB σ qs)) cs:=by
 obtain⟨r,hrun,hrs,k2,hU,hlen,hm'⟩:=xu3 R ho hT he hz h0 hm hzs hq hf;obtain⟨h1,h2,h3⟩:=ype R (e:=e) (s:=i.size) (l:=kG (List.replicate m z) (gB σ qs)) (cs:=r) (n:=m) (c:=m) hlen.symm (Nat.le_refl _) hrs h0 hm' hU (by
  rw [List.take_of_length_le (by simp [hrs])];exact k2)
 exact⟨⟨_,_,_,.inl hrun,h1,h2,h3⟩,_,k2⟩
theorem yoz (R:Rel cx E σ a w) {o:Oper} {T e:TypeId} {x y:Operand} (ho:o.op=.makeSlice T x y) {i:TypeInfo} {z:V} (hT:P.underlying T=some (.slice e)) (he:P.info? e=some i)
  (hz:tK P e z=true) (h0:0<i.size) (hzs:z.size=i.size) (hzp:z.pure=true) {k k':IntKind} {l c:Int} (hx:a.eval x=.int k l) (hy:a.eval y=.int k' c) (hl:0≤l) (hlc:l≤c) (hb:(i.bytes:Int)*c≤140737488355328) (hc:c≤140737488355328):
  nR P cx E a w o (.own σ.ob.length 0) {σ with ob:=σ.ob++[⟨.row e,true,0,.arr i.size (List.replicate l.toNat z)⟩]}:=by
 obtain⟨i',v,hi,hv,hr⟩:=xk0 hz E w;rw [he] at hi;obtain rfl:=Option.some.inj hi;have hvl:v.cells.size=i.size:=by have:=hr.len;simpa [hzs] using this
 have hU0:∀m,Unif i.size (List.replicate m z):=fun m x hx=>by rw [List.eq_of_mem_replicate hx,hzs]
 have hzr:∀m,RdL E w (List.replicate m z) ((List.range (m*i.size)).map (v.cells[· % i.size]!)):=fun m=>by
  have:=xtf hr (by rw [hvl];exact h0) m;rw [hvl] at this;exact this
 obtain⟨h1,h2,h3⟩:=yav R (e:=e) (s:=i.size) (l:=List.replicate l.toNat z) (cs:=madeCells v.cells (c.toNat*i.size)) (n:=l.toNat) (c:=c.toNat) ξ ω (by simp [size_madeCells]) h0 ω (pures_iff.2 fun x hx=>by rw [List.eq_of_mem_replicate hx];exact hzp) (hU0 _) (by
  have e1:(madeCells v.cells (c.toNat*i.size)).toList.take (l.toNat*i.size)=(List.range (l.toNat*i.size)).map (v.cells[· % i.size]!):=by
   have hle:l.toNat*i.size≤c.toNat*i.size:=Nat.mul_le_mul_right _ ω;simp only [madeCells,Array.toList_map,Array.toList_range,hvl,←List.map_take,List.take_range,Nat.min_eq_left hle]
  rw [e1];exact hzr _)
 refine⟨_,_,_,.inl ?_,h1,h2,h3⟩;have:=run_make (P:=P) w T e i v hT he hv k k' l c hl hlc ω ω;simp only [execOp,ho,hx,hy,Sem.run_bind,this,Result.andThen_ok,Sem.run_pure]
end
end Rdn.Dp
namespace Rdn.Dp
open Go Go.RowKit Rdn
section
variable {P:Program} {cx:Cx} {E:Env} {σ:AS} {a:Act} {w:World}
theorem xsk {α:Type} {l:List α} {r:Nat} {x:α} (h:l[r]?=some x):l.set r x=l:=by
 apply List.ext_getElem?;intro i;rw [List.getElem?_set];split
 ·rename_i e;subst e;rw [h];simp [(List.getElem?_eq_some_iff.1 h).1]
 ·rfl
theorem OkO.heap {o:Ob} {u:Value} (h:OkO cx E w o u) {b:Nat} (hb:aP u=some b):∃cur t xs rest,w.heap[b]?=some (.cells cur t (0,0))∧cur.toList=xs++rest∧RdV E w o.v xs∧
  ∀{w':World} {v':V} {xs':List Value},w'.heap[b]?=some (.cells (xs'++rest).toArray t (0,0))→xs'.length=xs.length→RdV E w' v' xs'→(match o.k with| .box _ _=>True| .row _=>∃s l l',o.v=.arr s l∧v'=.arr s l'∧l'.length=l.length∧V.pures l'=true| .rows _ _=>∃s l l',o.v=.arr s l∧v'=.arr s l'∧l'.length=l.length)→(o.live=true)→
   OkO cx E w' {o with v:=v'} u:=by
 unfold OkO at h;split at h
 ·rename_i q T hk
  obtain⟨b',cs,rfl,h1,h2,h3,h4⟩:=h;simp only [aP,Option.some.injEq] at hb;subst hb;refine⟨_,_,cs,[],h1,by simp,h2,fun {w' v' xs'} k1 k2 k3 _ hl=>?_⟩;unfold OkO;simp only [hk];refine⟨b',xs',rfl,by simpa using k1,k3,h3,?_⟩;rw [hl] at h4⊢;simpa using h4
 ·rename_i e hk
  obtain⟨s,l,xs,h1,h2,h3,h4,h5,h6,h7,h8⟩:=h;rcases h6.2 with ⟨rfl,hn⟩|⟨g,cap,cur,rfl,m1,m2,m3,m4,m5,m6⟩
  ·simp [aP] at hb
  simp only [aP,Option.some.injEq] at hb;subst hb;refine⟨cur,e,xs,cur.toList.drop (l.length*s),m2,by rw [←m6,List.take_append_drop],by rw [h1];simp only [RdV];exact⟨h7,h3⟩,fun {w' v' xs'} k1 k2 k3 k4 hl=>?_⟩;rw [hk] at k4;obtain⟨s',l0,l',e1,rfl,e3,e4⟩:=k4;rw [h1] at e1;injection e1 with e1 e2
  subst e1 e2;simp only [RdV] at k3;unfold OkO;simp only [hk];have hxl:xs.length=l.length*s:=h6.1;refine⟨s,l',xs',rfl,e4,k3.2,h4,ω,?_,k3.1,fun b hb=>?_⟩
  ·rw [e3]
   refine⟨ω,.inr ⟨g,cap,_,rfl,m1,k1,m3,m4,?_,?_⟩⟩
   ·have:cur.toList.length=xs.length+(cur.toList.drop (l.length*s)).length:=by rw [←List.length_append,←m6,List.take_append_drop]
    simp only [List.size_toArray,List.length_append];rw [k2,←this,Array.length_toList,m5]
   ·simp only
    rw [List.take_left' ω]
  ·have:=h8 b hb
   rw [hl] at this⊢;simpa using this
 ·rename_i e hk
  obtain⟨h0,s,l,xs,h1,h3,h4,h5,h6,h7,h8⟩:=h;rcases h6.2 with ⟨rfl,hn⟩|⟨g,cap,cur,rfl,m1,m2,m3,m4,m5,m6⟩
  ·simp [aP] at hb
  simp only [aP,Option.some.injEq] at hb;subst hb;refine⟨cur,e,xs,cur.toList.drop (l.length*s),m2,by rw [←m6,List.take_append_drop],by rw [h1];simp only [RdV];exact⟨h7,h3⟩,fun {w' v' xs'} k1 k2 k3 k4 hl=>?_⟩;rw [hk] at k4;obtain⟨s',l0,l',e1,rfl,e3⟩:=k4;rw [h1] at e1;injection e1 with e1 e2
  subst e1 e2;simp only [RdV] at k3;unfold OkO;simp only [hk];have hxl:xs.length=l.length*s:=h6.1;refine⟨h0,s,l',xs',rfl,k3.2,h4,ω,?_,k3.1,h8⟩;rw [e3];refine⟨ω,.inr ⟨g,cap,_,rfl,m1,k1,m3,m4,?_,?_⟩⟩
  ·have:cur.toList.length=xs.length+(cur.toList.drop (l.length*s)).length:=by rw [←List.length_append,←m6,List.take_append_drop]
   simp only [List.size_toArray,List.length_append];rw [k2,←this,Array.length_toList,m5]
  ·simp only
   rw [List.take_left' ω]
theorem xxd {S:Nat→Prop} (w:World) (g:Nat) (cs:Array Value) (h:S g):Keep S w (w.setRow g cs):=
 ⟨rfl,rfl,rfl,by simp,fun k _ hn=>setRow_other w g k cs (fun e=>hn (e▸h))⟩
theorem yvr (R:Rel cx E σ a w) {o:Oper} {T:TypeId} {x y:Operand} (ho:o.op=.store T x y) {i:TypeInfo} (hi:P.info? T=some i) {u v:V} (hu:RdT E w u (a.eval x)) (hv:RdT E w v (a.eval y)) (h:(xft σ i.size v u).2.2):
  nR P cx E a w o (xft σ i.size v u).1 (xft σ i.size v u).2.1:=by
 unfold xft at h⊢;split at h
 ·rename_i r g p off
  obtain⟨hg,hl,h1,h2,h3,h4,h5,h6⟩:=h;obtain⟨ob,u0,b,_,k1,k2,k3,k4,k5,k6,k7,_,_⟩:=xfg R hu hg;subst k2;have hlive:ob.live=true:=by simpa [xbv,k1] using hl
  obtain⟨cur,t,xs,rest,m1,m2,m3,m4⟩:=k5.heap k6;rw [k3] at h1 h2 h3;obtain⟨pre,c,post,e1,n1,n2,n3⟩:=xmd p 0 ob.v xs m3 h1;have hV:=hv.toV (.inl ω);have hvl:=hV.len;have hcl:=n2.len;have hoff:pre.length=off:=ω;have hst:(Instr.storeAt T (.pointer (some ⟨b,off,none⟩)) (a.eval y)).run P w=.ok () (w.setRow b ((pre++((a.eval y).cells.toList++post))++rest).toArray):=by
   have hsz:(a.eval y).cells.size=i.size:=by rw [←Array.length_toList,hvl,h4]
   have hcur:cur.toList=pre++(c++(post++rest)):=by rw [m2,e1];simp
   have hlen:cur.size=pre.length+(c.length+(post.length+rest.length)):=by rw [←Array.length_toList,hcur];simp
   have:=run_storeCells_at P b off t (a.eval y).cells.toList 0 cur w m1 (by rw [hlen,hvl,hcl];omega) (fun x hx=>hV.one x hx);simp only [Instr.storeAt,Instr.sureAddr,Sem.run_bind,Sem.run_pure,Result.andThen_ok,storeVar,Go.sizeOf,typeInfo,run_program,hi,hsz,ne_eq,not_true_eq_false,if_false,this,Nat.add_zero]
   congr 2
   rw [hcur,←hoff,List.take_left' rfl,show pre.length+(a.eval y).cells.toList.length=pre.length+c.length by rw [hvl,hcl];omega,←List.append_assoc pre c,List.drop_left' ξ];simp
  have hS:Keep (fun b'=>aP u0=some b') w (w.setRow b ((pre++((a.eval y).cells.toList++post))++rest).toArray):=xxd w b _ k6;have L:Leads E w E (w.setRow b ((pre++((a.eval y).cells.toList++post))++rest).toArray):=Leads.heap fun b' hb'=>hS.block b' (R.lt b' hb') (fun e=>k5.live_B hlive e hb');obtain⟨q1,q2⟩:=n3 (fun _ _ h=>h.mono L) v _ (by rw [h3,h4]) (hV.mono L);have hset:=xsk k4;have hO:=m4 (setRow_heap w b cur _ t (0,0) m1) (by rw [e1];simp [hvl,hcl,h3,h4]) q1 (by
   cases hk:ob.k with
   |box q T'=>trivial
   |row e=>
    rw [k1] at h6;obtain⟨ok,lv,gg,vv⟩:=ob;simp only at hk;subst hk;simp only at h6 k3 h1 q1 q2 m3⊢;obtain⟨hp,hne⟩:=h6;unfold OkO at k5;obtain⟨s,l,xs',w1,w2,w3,_⟩:=k5;simp only at w1;subst w1;cases p with
    |nil=>exact absurd rfl hne
    |cons j p=>
     have:=(xr6 (j::p) 0 (.arr s l) (by simpa [V.pure] using w2) h1).2 v hp;simp only [uU,V.pure] at this⊢;exact⟨s,l,_,rfl,rfl,by simp,this⟩
   |rows e=>
    rw [k1] at h6;obtain⟨ok,lv,gg,vv⟩:=ob;simp only at hk;subst hk;simp only at h6 k3 h1 q1 q2 m3⊢;unfold OkO at k5;obtain⟨w0,s,l,xs',w1,w2,w3,_⟩:=k5;simp only at w1;subst w1;cases p with
    |nil=>exact absurd rfl h6
    |cons j p=>exact⟨s,l,_,rfl,rfl,by simp⟩) hlive
  obtain⟨L',R'⟩:=R.touch (o':={ob with v:=uU ob.v p v}) (u':=u0) k1 hlive k4 hS hlive (.inl ⟨rfl,rfl⟩) (fun b hb=> .inl hb) (by
   rw [hset];exact hO)
  rw [hset] at R' L';refine⟨undef,_,E,.inr ⟨?_,rfl⟩,L',by simp only [RdT],?_⟩
  ·simp only [execOp,ho,k7,Sem.run_bind,hst,Result.andThen_ok,Sem.run_pure]
  ·simpa [AS.upd,k1] using R'
 ·exact h.elim
theorem xo9 (R:Rel cx E σ a w) {x:Option Operand} {y:Option X} (hc:oK x=some y) {d:Int} (h:(aW d σ y).2):
  (x=none∧y=none∧(aW d σ y).1=d)∨∃op k,x=some op∧y.isSome=true∧a.eval op=.int k (aW d σ y).1:=by
 cases x with
 |none=>simp only [oK,Option.some.injEq] at hc;subst hc;exact .inl ⟨rfl,rfl,rfl⟩
 |some op=>
  simp only [oK,Option.map_eq_some_iff] at hc;obtain⟨z,hz,rfl⟩:=hc;have hr:=dX R hz;unfold aW at h⊢;simp only at h⊢;split at h
  ·rename_i k n e
   rw [e] at hr;exact .inr ⟨op,k,rfl,rfl,(rd_int hr).1⟩
  ·exact h.elim
theorem xsw {q:Bool} {n c:Nat} {x y:Option Value} {lo hi:Int} (hx:(x=none∧lo=0)∨∃k,x=some (.int k lo)) (hy:(y=none∧hi=n)∨∃k,y=some (.int k hi)) (h0:0≤lo) (h1:lo≤hi) (h2:hi≤c):
  (Instr.sliceBounds q n c x y none).run P w=.ok (lo.toNat,hi.toNat,c) w:=by
 have sb:∀(k:IntKind) (n:Int) (c:Nat) (cd:BoundsCode),0≤n→n≤c→(Instr.sliceBound (.int k n) c cd).run P w=.ok n.toNat w:=by
  intro k n c cd a1 a2;simp [Instr.sliceBound,asIntOf,a1,a2]
 have e:((hi.toNat:Nat):Int)=hi:=ω;rcases hx with ⟨rfl,rfl⟩|⟨k,rfl⟩<;>rcases hy with ⟨rfl,rfl⟩|⟨k',rfl⟩
 ·simp [Instr.sliceBounds]
 ·simp [Instr.sliceBounds,sb k' hi c _ ω h2]
 ·simp [Instr.sliceBounds,sb k lo n _ h0 h1]
 ·simp [Instr.sliceBounds,sb k' hi c _ ω h2,sb k lo hi.toNat _ h0 ω]
theorem yuy {q:Bool} {n c:Nat} {x:Option Value} {k' k'':IntKind} {lo hi mx:Int} (hx:(x=none∧lo=0)∨∃k,x=some (.int k lo)) (h0:0≤lo) (h1:lo≤hi) (h2:hi≤mx) (h3:mx≤c):
  (Instr.sliceBounds q n c x (some (.int k' hi)) (some (.int k'' mx))).run P w=.ok (lo.toNat,hi.toNat,mx.toNat) w:=by
 have sb:∀(k:IntKind) (n:Int) (c:Nat) (cd:BoundsCode),0≤n→n≤c→(Instr.sliceBound (.int k n) c cd).run P w=.ok n.toNat w:=by
  intro k n c cd a1 a2;simp [Instr.sliceBound,asIntOf,a1,a2]
 rcases hx with ⟨rfl,rfl⟩|⟨k,rfl⟩
 ·simp [Instr.sliceBounds,sb k'' mx c _ ω h3,sb k' hi mx.toNat _ ω ω]
 ·simp [Instr.sliceBounds,sb k'' mx c _ ω h3,sb k' hi mx.toNat _ ω ω,sb k lo hi.toNat _ h0 ω]
theorem xt2 {t:Bool} {s:Nat} {l:List V} {A:Option Addr} {b o:Nat} {xs:List Value} (hp:V.pures l=true) (hU:Unif s l) (hm:l.length≤140737488355328) (hB:0<l.length→E.B b) (hF:0<l.length→t=true→E.F b) (hr:RdL E w l xs) (ha:At w b o xs) (lo hi:Nat) (h1:lo≤hi) (h2:hi≤l.length) (c:Nat) (hc:hi-lo≤c)
  (hA:lo<hi→A=some ⟨b,o+lo*s,none⟩):RdT E w (.sl t s ((l.take hi).drop lo)) (.slice A (hi-lo) c):=by
 have hl:((l.take hi).drop lo).length=hi-lo:=by rw [List.length_drop,List.length_take,Nat.min_eq_left h2]
 simp only [RdT,RdV];refine⟨pures_iff.2 fun x hx=>pures_iff.1 hp x (List.mem_of_mem_take (List.mem_of_mem_drop hx)),(hU.take hi).drop lo,A,c,by rw [hl],ω,ω,fun h0=>?_⟩;have e1:l=(l.take hi)++l.drop hi:=(List.take_append_drop hi l).symm;have hr':RdL E w ((l.take hi)++l.drop hi) xs:=by rw [←e1];exact hr
 obtain⟨ys,zs,rfl,k1,k2⟩:=hr'.split;have e2:l.take hi=(l.take hi).take lo++(l.take hi).drop lo:=(List.take_append_drop lo _).symm;have k1':RdL E w ((l.take hi).take lo++(l.take hi).drop lo) ys:=by rw [←e2];exact k1
 obtain⟨ys1,ys2,rfl,m1,m2⟩:=k1'.split;have hlen:ys1.length=lo*s:=by
  rw [m1.len,wP ((hU.take hi).take lo),List.length_take,List.length_take,Nat.min_eq_left h2,Nat.min_eq_left h1,Nat.mul_comm]
 refine⟨b,o+lo*s,ys2,hA ω,hB ω,hF ω,m2,?_⟩;have:=ha.left.right
 rwa [hlen] at this
theorem xep (R:Rel cx E σ a w) {x:Option Operand} {y:Option X} (hc:oK x=some y) {d:Int} (h:(aW d σ y).2):
  (x.map a.eval=none∧(aW d σ y).1=d)∨∃k,x.map a.eval=some (.int k (aW d σ y).1):=by
 rcases xo9 R hc h with ⟨rfl,_,h⟩|⟨op,k,rfl,_,h⟩
 ·exact .inl ⟨rfl,h⟩
 ·exact .inr ⟨k,by simp [h]⟩
theorem yd8 (R:Rel cx E σ a w) {o:Oper} {T e:TypeId} {i:TypeInfo} {x:Operand} {lo hi mx:Option Operand} {lo' hi' mx':Option X} (ho:o.op=.slice T x lo hi mx) (hT:P.underlying T=some (.slice e)) (he:P.info? e=some i) (hlo:oK lo=some lo') (hhi:oK hi=some hi') (hmx:oK mx=some mx')
  {A:Option Addr} {n c:Nat} (hx:a.eval x=.slice A n c) (hn:n≤c) (b1:(aW 0 σ lo').2) (b2:(aW n σ hi').2) (b3:(aW n σ mx').2) (h0:0≤(aW 0 σ lo').1) (h1:(aW 0 σ lo').1≤(aW n σ hi').1) (h2:(aW n σ hi').1≤(aW n σ mx').1) (h3:(aW n σ mx').1≤n) (h4:mx'.isSome=true→hi'.isSome=true):
  ∃A' c',(execOp a.eval o).run P w=.ok (.value (.slice A' ((aW n σ hi').1.toNat-(aW 0 σ lo').1.toNat) c')) w∧(aW n σ hi').1.toNat-(aW 0 σ lo').1.toNat≤c'∧((aW 0 σ lo').1<(aW n σ hi').1→A'=A.map (·.add ((aW 0 σ lo').1.toNat*i.size))):=by
 have B1:=xep R hlo b1;have B2:=xep R hhi b2;have B3:=xep R hmx b3;have key:∀m:Nat,(Instr.sliceBounds true n c (lo.map a.eval) (hi.map a.eval) (mx.map a.eval)).run P w=.ok ((aW 0 σ lo').1.toNat,(aW n σ hi').1.toNat,m) w→(aW n σ hi').1.toNat≤m→
   ∃A' c',(execOp a.eval o).run P w=.ok (.value (.slice A' ((aW n σ hi').1.toNat-(aW 0 σ lo').1.toNat) c')) w∧(aW n σ hi').1.toNat-(aW 0 σ lo').1.toNat≤c'∧((aW 0 σ lo').1<(aW n σ hi').1→A'=A.map (·.add ((aW 0 σ lo').1.toNat*i.size))):=by
  intro m hm hle;refine⟨if m=(aW 0 σ lo').1.toNat then A else A.map (·.add ((aW 0 σ lo').1.toNat*i.size)),m-(aW 0 σ lo').1.toNat,?_,ω,fun hlt=>?_⟩
  ·simp only [execOp,ho,hx,Instr.sliceAt,Instr.slice,Sem.run_bind,run_underlying hT,Result.andThen_ok,hm,Go.sizeOf,typeInfo,run_program,he,Sem.run_pure]
  ·rw [if_neg ω]
 rcases B3 with ⟨e3,q3⟩|⟨k3,e3⟩
 ·rw [e3] at key
  refine key c (xsw ?_ ?_ h0 h1 ω) ω
  ·rcases B1 with ⟨e,q⟩|⟨k,e⟩
   ·exact .inl ⟨e,q⟩
   ·exact .inr ⟨k,e⟩
  ·rcases B2 with ⟨e,q⟩|⟨k,e⟩
   ·exact .inl ⟨e,q⟩
   ·exact .inr ⟨k,e⟩
 ·rcases B2 with ⟨e2,q2⟩|⟨k2,e2⟩
  ·exfalso
   have hm:mx'.isSome=true:=by
    rcases xo9 R hmx b3 with ⟨rfl,_⟩|⟨_,_,_,h,_⟩
    ·simp at e3
    ·exact h
   have:=h4 hm;rcases xo9 R hhi b2 with ⟨_,rfl,_⟩|⟨op,k,rfl,_,_⟩
   ·cases this
   ·simp at e2
  ·rw [e3,e2] at key
   refine key (aW n σ mx').1.toNat (yuy ?_ h0 h1 h2 ω) ω;rcases B1 with ⟨e,q⟩|⟨k,e⟩
   ·exact .inl ⟨e,q⟩
   ·exact .inr ⟨k,e⟩
theorem yuv (R:Rel cx E σ a w) {o:Oper} {T e:TypeId} {i:TypeInfo} {x:Operand} {lo hi mx:Option Operand} {lo' hi' mx':Option X} (ho:o.op=.slice T x lo hi mx) (hT:P.underlying T=some (.slice e)) (he:P.info? e=some i) (hlo:oK lo=some lo') (hhi:oK hi=some hi') (hmx:oK mx=some mx')
  {u:V} (hu:RdT E w u (a.eval x)) (h:(slV σ i.size lo' hi' mx' u).2.2):nR P cx E a w o (slV σ i.size lo' hi' mx' u).1 (slV σ i.size lo' hi' mx' u).2.1:=by
 unfold slV at h⊢;split at h
 ·rename_i t s' l
  obtain⟨hs,b1,b2,b3,h0,h1,h2,h3,h4⟩:=h;subst hs;simp only [RdT,RdV] at hu;obtain⟨hp,hU,A,c,e1,hc,hm,hh⟩:=hu;simp at e1;obtain⟨A',c',k1,k2,k3⟩:=yd8 R ho hT he hlo hhi hmx e1 hc b1 b2 b3 h0 h1 h2 h3 h4;refine xq1 R k1 ?_;by_cases hl0:0<l.length
  ·obtain⟨b,oo,xs,rfl,m1,m2,m3,m4⟩:=hh hl0
   exact xt2 hp hU hm (fun _=>m1) (fun _=>m2) m3 m4 _ _ ω ω _ k2 (fun hlt=>by rw [k3 ω];simp [xdj])
  ·have hl:l=[]:=List.eq_nil_of_length_eq_zero ω
   subst hl;have e1:(aW (([]:List V).length:Int) σ hi').1.toNat-(aW 0 σ lo').1.toNat=0:=by simp at h2 h3⊢;omega
   rw [e1];simp only [RdT,RdV];exact⟨by simp [V.pures],by simp [Unif],A',c',by simp,by simp,by simp,by simp⟩
 ·rename_i r g
  obtain⟨hg,hs,b1,b2,b3,h0,h1,h2,h3,h4⟩:=h;obtain⟨e',lv,s,l,xs,q1,q2,q3,q4,q5,q6,q7,q8,q9,q10,q11⟩:=xeb R hu hg;rw [q2] at hs;subst hs;rw [q3] at b2 b3 h1 h2 h3⊢;have hv:∃A c,a.eval x=.slice A l.length c∧l.length≤c:=by
   rcases q9.2 with ⟨hv,hn⟩|⟨b,cap,cur,hv,_,_,hc,_⟩
   ·exact⟨none,0,by rw [hv,hn],ω⟩
   ·exact⟨_,_,hv,hc⟩
  obtain⟨A,c,e1,hc⟩:=hv;obtain⟨A',c',k1,k2,k3⟩:=yd8 R ho hT he hlo hhi hmx e1 hc b1 b2 b3 h0 h1 h2 h3 h4;have hlt:=q9.lt;have hbk:∀b,aP (a.eval x)=some b→(a.eval x).ownBlock=some b:=by
   intro b hb;rw [e1] at hb⊢;cases A with
   |none=>simp [aP] at hb
   |some aa=>simpa [aP,Value.ownBlock] using hb
  obtain⟨L,R'⟩:=R.freeze q1 q4 (fun b hb=>⟨(hlt b (hbk b hb)).1,trivial⟩);refine⟨.slice A' ((aW l.length σ hi').1.toNat-(aW 0 σ lo').1.toNat) c',w,{E with B:=fun b=>E.B b∨aP (a.eval x)=some b},.inl k1,L,?_,R'⟩;rcases q9.2 with ⟨hv,hn⟩|⟨b,cap,cur,hv,m1,m2,m3,m4,m5,m6⟩
  ·have hl:l=[]:=List.eq_nil_of_length_eq_zero ω
   subst hl;have e1:(aW (([]:List V).length:Int) σ hi').1.toNat-(aW 0 σ lo').1.toNat=0:=by simp at h2 h3⊢;omega
   rw [e1];simp only [RdT,RdV];exact⟨by simp [V.pures],by simp [Unif],A',c',by simp,by simp,by simp,by simp⟩
  ·rw [e1] at hv
   injection hv with hv1 hv2 hv3
   subst hv1;have hb:aP (a.eval x)=some b:=by rw [e1];rfl
   refine xt2 (E:={E with B:=fun b=>E.B b∨aP (a.eval x)=some b}) (A:=A') (b:=b) (o:=0) (xs:=xs) q5 q6 q8 (fun _=>Or.inr hb) (fun _ _=>(R.fr b).2 m1) (q10.mono L) (fun j v hv=>?_) _ _ ω ω _ k2 (fun hlt=>by rw [k3 ω];simp [xdj]);rw [←m6,List.getElem?_take] at hv;split at hv
   ·simpa [World.cell?,m2] using hv
   ·cases hv
 ·exact h.elim
theorem yuu (R:Rel cx E σ a w) {o:Oper} {T e:TypeId} {m:Nat} {i:TypeInfo} {x:Operand} {lo hi mx:Option Operand} {lo' hi' mx':Option X} (ho:o.op=.slice T x lo hi mx) (hT:P.underlying T=some (.array m e)) (he:P.info? e=some i) (hlo:oK lo=some lo') (hhi:oK hi=some hi') (hmx:oK mx=some mx')
  {u:V} (hu:RdT E w u (a.eval x)) (h:(xfq σ m i.size lo' hi' mx' u).2.2):nR P cx E a w o (xfq σ m i.size lo' hi' mx' u).1 (xfq σ m i.size lo' hi' mx' u).2.1:=by
 unfold xfq at h⊢;split at h
 ·rename_i r g
  split at h
  ·rename_i s' l heq
   obtain⟨hg,hbx,hs,hs0,hp,hlm,hm,b1,b2,h0,h1,h3,h4⟩:=h;subst hs;obtain⟨ob,u0,b,xs,k1,k2,k3,k4,k5,k6,k7,k8,k9⟩:=xfg R hu hg;subst k2;rw [k3] at heq;have hmx0:mx=none:=by
    cases mx with
    |none=>rfl
    |some q=>
     simp only [oK,Option.map_eq_some_iff] at hmx;obtain⟨_,_,rfl⟩:=hmx;simp at h4
   subst hmx0;have hbx':∃T',ob.k=.box false T':=by
    rw [k1] at hbx;obtain⟨ok,lv,gg,vv⟩:=ob;cases ok with
    |row e=>simp at hbx
    |rows e=>simp at hbx
    |box q T'=>cases q<;>simp at hbx⊢
   obtain⟨T',hT'⟩:=hbx';have hbase:cx.W.heap.size≤b:=by
    unfold OkO at k5;rw [hT'] at k5;obtain⟨b',cs,e1,_,_,e2,_⟩:=k5;rw [e1] at k6;simp only [aP,Option.some.injEq] at k6;subst k6;simpa using e2
   obtain⟨L,R'⟩:=R.freeze k1 k4 (fun b' hb'=>by
    rw [k6] at hb';injection hb' with hb'
    subst hb';refine⟨hbase,?_⟩;rw [hT'];simp only [heq,V.pure];exact hp) (fun qq e h=>by rw [hT'] at h;cases h)
   rw [heq] at k9;simp only [RdV] at k9;have B1:=xep R hlo b1;have B2:=xep R hhi b2;have hsb:(Instr.sliceBounds false m m (lo.map a.eval) (hi.map a.eval) none).run P w=.ok ((aW 0 σ lo').1.toNat,(aW m σ hi').1.toNat,m) w:=by
    refine xsw ?_ ?_ h0 h1 ω
    ·rcases B1 with ⟨e,q⟩|⟨k,e⟩
     ·exact .inl ⟨e,q⟩
     ·exact .inr ⟨k,e⟩
    ·rcases B2 with ⟨e,q⟩|⟨k,e⟩
     ·exact .inl ⟨e,q⟩
     ·exact .inr ⟨k,e⟩
   refine⟨.slice (some (if m=(aW 0 σ lo').1.toNat then⟨b,0,none⟩ else(⟨b,0,none⟩:Addr).add ((aW 0 σ lo').1.toNat*i.size))) ((aW m σ hi').1.toNat-(aW 0 σ lo').1.toNat) (m-(aW 0 σ lo').1.toNat),w,{E with B:=fun b=>E.B b∨aP u0=some b},.inl (by
    simp only [execOp,ho,Option.map_none,k7,Instr.sliceAt,Instr.sureAddr,Sem.run_bind,run_underlying hT,Result.andThen_ok,hsb,Go.sizeOf,typeInfo,run_program,he,Sem.run_pure]),L,?_,R'⟩
   refine xt2 (E:={E with B:=fun b=>E.B b∨aP u0=some b}) (b:=b) (o:=0) (xs:=xs) hp k9.2 ω (fun _=>Or.inr k6) (fun _ _=>(R.fr b).2 hbase) (k9.1.mono L) k8 _ _ ω ω _ ω (fun hlt=>?_);rw [if_neg ω];simp [xdj]
  ·exact h.elim
 ·exact h.elim
end
end Rdn.Dp
namespace Rdn.Dp
open Go Go.RowKit Rdn
section
variable {P:Program} {cx:Cx} {E:Env} {σ:AS} {a:Act} {w:World}
theorem xsx (R:Rel cx E σ a w) {r0 s:Nat} {u:V} {p:Value} (hu:RdT E w u p) (h:(jT σ r0 u).2.2) (hs:(jT σ r0 u).1=[]∨(jT σ r0 u).2.1=s):
  ∃A m c ys,p=.slice A m c∧m=(jT σ r0 u).1.length∧V.pures (jT σ r0 u).1=true∧Unif s (jT σ r0 u).1∧RdL E w (jT σ r0 u).1 ys∧m≤140737488355328∧(0<m→∃b o,A=some ⟨b,o,none⟩∧At w b o ys):=by
 unfold jT at h hs⊢;split at h
 ·simp only [RdT,RdV] at hu
  obtain⟨h1,h2,A,c,h3,h4,h5,h6⟩:=hu;simp at h3;rename_i t s' l;by_cases h0:0<l.length
  ·obtain⟨b,o,xs,k1,k2,k3,k4,k5⟩:=h6 h0
   have:s'=s:=by
    rcases hs with hs|hs
    ·have hs:l=[]:=hs
     rw [hs] at h0;simp at h0
    ·exact hs
   subst this;exact⟨A,_,c,xs,h3,rfl,h1,h2,k4,h5,fun _=>⟨b,o,k1,k5⟩⟩
  ·have hl:l=[]:=List.eq_nil_of_length_eq_zero ω
   subst hl;exact⟨A,_,c,[],h3,rfl,h1,by simp [Unif],by simp [RdL],h5,fun h0=>by simp at h0⟩
 ·simp only [RdT,RdV] at hu
  simp at hu;exact⟨none,0,0,[],hu,rfl,rfl,by simp [Unif],by simp [RdL],ω,fun h0=>by simp at h0⟩
 ·rename_i r g
  obtain⟨hg,hne⟩:=h;obtain⟨e',lv,s',l,xs,q1,q2,q3,q4,q5,q6,q7,q8,q9,q10,q11⟩:=xeb R hu hg;simp only [q2,q3] at hs⊢;rcases q9.2 with ⟨hv,hn⟩|⟨b,cap,cur,hv,m1,m2,m3,m4,m5,m6⟩
  ·have hl:l=[]:=List.eq_nil_of_length_eq_zero ω
   subst hl;exact⟨none,0,0,[],hv,rfl,rfl,by simp [Unif],by simp [RdL],ω,fun h0=>by simp at h0⟩
  ·by_cases h0:0<l.length
   ·have:s'=s:=by
     rcases hs with hs|hs
     ·rw [hs] at h0;simp at h0
     ·exact hs
    subst this;refine⟨_,_,cap,xs,hv,rfl,q5,q6,q10,q8,fun _=>⟨b,0,rfl,fun j v hv=>?_⟩⟩;rw [←m6,List.getElem?_take] at hv;split at hv
    ·simpa [World.cell?,m2] using hv
    ·cases hv
   ·have hl:l=[]:=List.eq_nil_of_length_eq_zero ω
    subst hl;exact⟨_,_,cap,[],hv,rfl,rfl,by simp [Unif],by simp [RdL],by simp,fun h0=>by simp at h0⟩
 ·exact h.elim
theorem ye7 (R:Rel cx E σ a w) {r0 s:Nat} {u:V} {p:Value} (hu:RdT E w u p) (h:(mO σ r0 u).2.2) (hs:(mO σ r0 u).1=[]∨(mO σ r0 u).2.1=s):
  ∃A m c ys,p=.slice A m c∧m=(mO σ r0 u).1.length∧Unif s (mO σ r0 u).1∧RdL E w (mO σ r0 u).1 ys∧m≤140737488355328∧(0<m→∃b o,A=some ⟨b,o,none⟩∧At w b o ys):=by
 unfold mO at h hs⊢;split at h
 ·rename_i t s' l
  obtain⟨A,m,c,ys,h1,h2,h3,h4,h5⟩:=xsx (σ:=σ) (r0:=r0) (s:=s) R hu (by simp [jT]) (by simpa [jT] using hs);exact⟨A,m,c,ys,h1,h2,h4,h5⟩
 ·obtain⟨A,m,c,ys,h1,h2,h3,h4,h5⟩:=xsx (σ:=σ) (r0:=r0) (s:=s) R hu (by simp [jT]) (by simp [jT])
  exact⟨A,m,c,ys,h1,h2,h4,h5⟩
 ·rename_i r g
  obtain⟨hg,hne⟩:=h;obtain⟨_,e',lv,s',l,xs,q1,_,q2,q3,q4,q6,q7,q8,q9,q10,q11⟩:=xec R hu hg;simp only [q2,q3] at hs⊢;rcases q9.2 with ⟨hv,hn⟩|⟨b,cap,cur,hv,m1,m2,m3,m4,m5,m6⟩
  ·have hl:l=[]:=List.eq_nil_of_length_eq_zero ω
   subst hl;exact⟨none,0,0,[],hv,rfl,by simp [Unif],by simp [RdL],ω,fun h0=>by simp at h0⟩
  ·by_cases h0:0<l.length
   ·have:s'=s:=by
     rcases hs with hs|hs
     ·rw [hs] at h0;simp at h0
     ·exact hs
    subst this;refine⟨_,_,cap,xs,hv,rfl,q6,q10,q8,fun _=>⟨b,0,rfl,fun j v hv=>?_⟩⟩;rw [←m6,List.getElem?_take] at hv;split at hv
    ·simpa [World.cell?,m2] using hv
    ·cases hv
   ·have hl:l=[]:=List.eq_nil_of_length_eq_zero ω
    subst hl;exact⟨_,_,cap,[],hv,rfl,by simp [Unif],by simp [RdL],by simp,fun h0=>by simp at h0⟩
 ·exact h.elim
theorem yva (R:Rel cx E σ a w) {r0 r:Nat} {e:TypeId} {lv:Bool} {g:Nat} {q:V} {u:V} {p:Value} (hu:RdT E w u p) (hg:(mO σ r0 u).2.2) (ho:σ.ob[r]?=some ⟨.row e,lv,g,q⟩) (h:xf9 σ r u):V.pures (mO σ r0 u).1=true:=by
 unfold mO at hg⊢;split at hg
 ·simp only [RdT,RdV] at hu
  exact hu.1
 ·rfl
 ·rename_i r1 g1
  obtain⟨k,e',lv',s',l,xs,q1,q0,q2,q3,_⟩:=xec R hu hg.1;simp only [q3];rcases q0 with ⟨_,q0⟩|⟨⟨qq,q0⟩,_⟩
  ·exact q0
  ·subst q0
   simp [xf9,ho,q1] at h
 ·exact hg.elim
theorem xnz {base:Nat} {t ty e:TypeId} {i:TypeInfo} {z:Value} (ht:P.underlying t=some (.slice e)) (hi:P.info? e=some i) (hz:i.zero=some z) (hzs:z.cells.size=i.size) (h0:0<i.size)
  {v:Value} {n:Nat} {xs:List Value} (hown:w.ownsRow base e i.size v n xs) {A:Option Addr} {m c:Nat} {l:List V} {ys:List Value} (hm:m=l.length) (hU:Unif i.size l) (hr:RdL E w l ys) (hA:0<m→∃b o,A=some ⟨b,o,none⟩∧At w b o ys)
  (hb:(n+m)*i.bytes≤140737488355328) (h63:n+m≤140737488355328) (hbase:base≤w.heap.size):
  ∃v' w',(Builtin.append_ #[t,t] ty #[v,.slice A m c]).run P w=.ok v' w'∧w'.ownsRow base e i.size v' (n+m) (xs++ys)∧Keep (fun b=>v.ownBlock=some b) w w'∧(v'.ownBlock=v.ownBlock∨v'.ownBlock=some w.heap.size):=by
 have hyl:ys.length=m*i.size:=by rw [hr.len,wP hU,hm,Nat.mul_comm]
 by_cases hm0:0<m
 ·obtain⟨b,o,rfl,ha⟩:=hA hm0
  obtain⟨v',w',k1,k2,k3,_,k4⟩:=run_append_own_at (P:=P) w base t ty e i z i.size i.bytes ht hi hz rfl rfl hzs h0 v n xs hown ⟨b,o,none⟩ m c ys hyl (fun j u hu=>by rw [xdj];exact ha j u hu) hr.one (by simp [maxLen];omega) hb hbase;exact⟨v',w',k1,k2,Keep.of_grown k3 (fun g hg=>hg),k4⟩
 ·have hm1:m=0:=ω
  subst hm1;have hy:ys=[]:=List.eq_nil_of_length_eq_zero (by simpa using hyl);subst hy;rcases hown.2 with ⟨rfl,rfl⟩|⟨g,cap,cur,rfl,_,_,hc,_⟩
  ·exact⟨_,w,yd5 (P:=P) w t ty e i ht hi none A 0 0 c (Nat.le_refl _),by simpa using hown,Keep.refl _ _,.inl rfl⟩
  ·exact⟨_,w,yd5 (P:=P) w t ty e i ht hi _ A n cap c hc,by simpa using hown,Keep.refl _ _,.inl rfl⟩
theorem yg3 (R:Rel cx E σ a w) {o:Oper} {t e:TypeId} {x y:Operand} (ho:o.op=.call {callee:=.builtin .append,args:=#[x,y],argTypes:=#[t,t]}) {i:TypeInfo} {z:Value} (ht:P.underlying t=some (.slice e)) (hi:P.info? e=some i) (hz:i.zero=some z) (hzs:z.cells.size=i.size) (h0:0<i.size)
  {u v:V} (hu:RdT E w u (a.eval x)) (hv:RdT E w v (a.eval y)) (h:(xci σ e i.size i.bytes v u).2.2):nR P cx E a w o (xci σ e i.size i.bytes v u).1 (xci σ e i.size i.bytes v u).2.1:=by
 have run:∀{v' w'},(Builtin.append_ #[t,t] o.type #[a.eval x,a.eval y]).run P w=.ok v' w'→(execOp a.eval o).run P w=.ok (.value v') w':=by
  intro v' w' hr;simp only [execOp,ho,resolve,invoke,builtin,Sem.run_bind,Sem.run_pure,Result.andThen_ok,List.map_toArray,List.map_cons,List.map_nil,hr]
 unfold xci at h⊢;split at h
 ·rename_i r g
  obtain⟨hg,hl,he,hs,hsrc,hss,hb,h63,hokA⟩:=h;obtain⟨kk,e',lv,s',l,xs,q1,q0,q2,q3,q4,q6,q7,q8,q9,q10,q11⟩:=xec R hu hg;rw [q2] at hs;subst hs;have hlv:lv=true:=by simpa [xbv,q1] using hl
  subst hlv;have hee:e'=e:=by
   rcases q0 with ⟨rfl,_⟩|⟨⟨qq,rfl⟩,_⟩<;>simpa [eAt,q1] using he
  subst hee;rw [q3] at hb h63⊢;obtain⟨A,m,c,ys,e1,e2,e4,e5,e6,e7⟩:=ye7 R hv hsrc hss;obtain⟨v',w',k1,k2,k3,k4⟩:=xnz (P:=P) (ty:=o.type) (c:=c) ht hi hz hzs h0 q9 e2 e4 e5 e7 (by rw [e2];exact hb) (by rw [e2];exact h63) (Nat.le_trans (OK.base_le _ _) R.keep.size);rw [←e1] at k1;have hob:∀(v:Value) (b:Nat),aP v=some b→(∃A n c,v=.slice A n c)→v.ownBlock=some b:=by
   rintro v b hb ⟨A,n,c,rfl⟩
   cases A with
   |none=>simp [aP] at hb
   |some aa=>simpa [aP,Value.ownBlock] using hb
  have hob':∀(v:Value) (b:Nat),v.ownBlock=some b→aP v=some b:=by
   intro v b hb;cases v<;>simp [Value.ownBlock] at hb
   rename_i A n c;cases A with
   |none=>simp at hb
   |some aa=>simpa [aP] using hb
  have hsl:∀{w:World} {base n:Nat} {e:TypeId} {s:Nat} {v:Value} {xs:List Value},w.ownsRow base e s v n xs→∃A n c,v=.slice A n c:=by
   rintro w base n e s v xs ⟨_,⟨rfl,_⟩|⟨g,cap,cur,rfl,_⟩⟩
   ·exact⟨_,_,_,rfl⟩
   ·exact⟨_,_,_,rfl⟩
  have hS:Keep (fun b=>aP (a.eval x)=some b) w w':=k3.mono (fun b _ hb=>hob' _ _ hb);have hB:∀b,E.B b→w'.heap[b]?=w.heap[b]?:=fun b hb=>hS.block b (R.lt b hb) (fun eq=>by have:=q11 b eq;simp only [if_true] at this;exact this hb);have L0:Leads E w E w':=Leads.heap hB;have hnb:∀b,aP v'=some b→¬E.B b:=by
   intro b hb hB';have hb:=hob _ _ hb (hsl k2);rcases k4 with k4|k4
   ·rw [k4] at hb
    have:=q11 b (hob' _ _ hb);simp only [if_true] at this;exact this hB'
   ·rw [k4] at hb
    injection hb with hb
    have:=R.lt b hB';omega
  have hrl:r<E.ref.length:=(List.getElem?_eq_some_iff.1 q4).1;have L1:Leads E w {E with ref:=E.ref.set r (g+1,v')} w':=by
   refine⟨fun b hb=>⟨hb,hB b hb⟩,fun _ h=>h,by simp,fun r2 g2 u2 hr2 h2=>?_⟩;by_cases er:r=r2
   ·subst er
    rw [List.getElem?_set_self hrl] at h2;injection h2 with h2
    injection h2 with h2 h3
    subst h2 h3;exact⟨g,_,q4,ω,fun h=>by omega⟩
   ·rw [List.getElem?_set_ne er] at h2
    exact⟨g2,u2,h2,Nat.le_refl _,fun _=>rfl⟩
  have hwr:∀b,aP (a.eval x)=some b→cx.W.heap.size≤b∨cx.lent b:=fun b hb=>by
   obtain⟨u1,n1,n2⟩:=R.ob r _ q1;rw [q4] at n1;injection n1 with n1
   injection n1 with _ n1
   subst n1;exact n2.wr hb
  have hOk:OkO cx {E with ref:=E.ref.set r (g+1,v')} w' ⟨kk,true,g+1,.arr i.size (l++(mO σ r v).1)⟩ v':=by
   rcases q0 with ⟨rfl,q5⟩|⟨⟨qq,rfl⟩,_⟩
   ·have e3:=yva R hv hsrc q1 hokA
    unfold OkO;refine⟨i.size,_,xs++ys,rfl,yc3 q5 e3,q6.app e4,h0,by simpa using h63,by rw [List.length_append,←e2];exact k2,RdL.cutp (yc3 q5 e3) ((q10.mono L0).app (e5.mono L0)),fun b hb=>?_⟩;simp only [if_true];exact hnb b hb
   ·unfold OkO
    refine⟨rfl,i.size,_,xs++ys,rfl,q6.app e4,h0,by simpa using h63,by rw [List.length_append,←e2];exact k2,(q10.mono L1).app (e5.mono L1),fun b hb=>⟨hnb b hb,?_⟩⟩;have hb:=hob _ _ hb (hsl k2);rcases k4 with k4|k4
    ·rw [k4] at hb;exact hwr _ (hob' _ _ hb)
    ·rw [k4] at hb
     injection hb with hb
     exact .inl (by rw [←hb];exact R.keep.size)
  obtain⟨L',R'⟩:=R.touch (o':=⟨kk,true,g+1,.arr i.size (l++(mO σ r v).1)⟩) (u':=v') q1 rfl q4 hS rfl (.inr rfl) (fun b hb=>by
   have hb:=hob _ _ hb (hsl k2);rcases k4 with k4|k4
   ·rw [k4] at hb;exact .inl (hob' _ _ hb)
   ·rw [k4] at hb;injection hb with hb;exact .inr ω) hOk
  refine⟨v',w',_,.inl (run k1),L',?_,by simpa [AS.upd,q1] using R'⟩;obtain⟨A',n',c',rfl⟩:=hsl k2;simp only [RdT,RdV];refine⟨_,rfl,rfl,by simpa using hrl,fun gc u h=>?_⟩;rw [List.getElem?_set_self hrl] at h;injection h with h
  injection h with h1 h2
  exact⟨ω,fun _=>h2⟩
 ·obtain⟨hsrc,hss,hb,h63⟩:=h
  obtain⟨A,m,c,ys,e1,e2,e3,e4,e5,e6,e7⟩:=xsx R hv hsrc hss;have hx:a.eval x=.slice none 0 0:=by simp only [RdT,RdV] at hu;simpa using hu
  obtain⟨v',w',k1,k2,k3,k4⟩:=xnz (P:=P) (ty:=o.type) (c:=c) ht hi hz hzs h0 (World.ownsRow_nil w cx.W.heap.size e i.size) e2 e4 e5 e7 (by rw [e2];simpa using hb) (by rw [e2];simpa using h63) R.keep.size;rw [←e1,←hx] at k1;have hsl:∃A n c,v'=.slice A n c:=by
   rcases k2.2 with ⟨rfl,_⟩|⟨g,cap,cur,rfl,_⟩
   ·exact⟨_,_,_,rfl⟩
   ·exact⟨_,_,_,rfl⟩
  have hbk:∀b,aP v'=some b→b=w.heap.size:=by
   intro b hb;obtain⟨A',n',c',rfl⟩:=hsl;rcases k4 with k4|k4
   ·cases A' with
    |none=>simp [aP] at hb
    |some aa=>simp [Value.ownBlock] at k4
   ·cases A' with
    |none=>simp [aP] at hb
    |some aa=>simp [Value.ownBlock] at k4;simp [aP] at hb;omega
  have hBl:Below w.heap.size w w':=k3.below (fun b _ e=>by simp [Value.ownBlock] at e) (Nat.le_refl _);have L0:Leads E w E w':=Leads.heap fun b hb=>hBl.block b (R.lt b hb);simp only [Nat.zero_add,List.nil_append] at k2;obtain⟨L',R'⟩:=R.new (w':=w') (o:=⟨.row e,true,0,.arr i.size (jT σ σ.ob.length v).1⟩) (u:=v') hBl (fun b hb=>by have:=hbk b hb;omega) rfl rfl (by
   unfold OkO;refine⟨i.size,_,ys,rfl,e3,e4,h0,by simpa using h63,by rw [←e2];exact k2,RdL.cutp e3 (e5.mono L0),fun b hb=>?_⟩;simp only [if_true];intro hB;have:=R.lt b hB;have:=hbk b hb;omega)
  refine⟨v',w',_,.inl (run k1),L',?_,R'⟩;obtain⟨A',n',c',rfl⟩:=hsl;simp only [RdT,RdV];refine⟨_,rfl,rfl,by simp [R.len],fun gc u h=>?_⟩;rw [←R.len,List.getElem?_append_right (Nat.le_refl _)] at h;simp at h;obtain⟨h1,h2⟩:=h;subst h1;exact⟨Nat.le_refl _,fun _=>h2⟩
 ·exact h.elim
theorem yxt {z:V}:∀{cs:List Value},qW z=some cs→z.pure=true:=by
 have key:∀n,(∀z:V,sizeOf z≤n→∀cs,qW z=some cs→z.pure=true)∧(∀l:List V,sizeOf l≤n→∀cs,xel l=some cs→V.pures l=true):=by
  intro n
  induction n with
  |zero=>
   refine⟨fun z hz=>?_,fun l hl=>?_⟩
   ·cases z<;>simp at hz
   ·cases l<;>simp at hl
  |succ n ih=>
   refine⟨fun z hz cs h=>?_,fun l hl cs h=>?_⟩
   ·cases z<;>simp only [qW] at h<;>simp only [V.pure]<;>try (cases h;done)
    ·rename_i l
     exact ih.2 l (by simp at hz;omega) cs h
    ·rename_i s l
     split at h
     ·exact ih.2 l (by simp at hz;omega) cs h
     ·cases h
   ·cases l with
    |nil=>rfl
    |cons x l=>
     simp only [xel] at h;split at h
     ·rename_i c ys h1 h2
      simp only [V.pures,Bool.and_eq_true];exact⟨ih.1 x (by simp at hl;omega) c h1,ih.2 l (by simp at hl;omega) ys h2⟩
     ·cases h
 intro cs h;exact(key _).1 z (Nat.le_refl _) cs h
theorem yfm {t:TypeId} {z:V} (h:tK P t z=true):z.pure=true:=by
 unfold tK at h;split at h
 ·split at h
  ·rename_i hc;exact yxt hc
  ·cases h
 ·cases h
theorem xa7 {o:Oper} {m:MOp} (hc:rC P o.op=some m) (R:Rel cx E σ a w) (h:(dV σ m).2.2):nR P cx E a w o (dV σ m).1 (dV σ m).2.1:=by
 obtain⟨dst,op,ty,pos,after,guard⟩:=o;simp only at hc;unfold rC at hc;split at hc
 case h_1=>
  simp only [Option.map_eq_some_iff] at hc;obtain⟨x,hx,rfl⟩:=hc;exact yge R rfl (dX R hx) h
 case h_2=>
  split at hc
  ·split at hc
   ·cases hc
    exact yfw R rfl (by assumption)
   ·cases hc
  ·cases hc
 case h_3=>
  split at hc
  ·rename_i h1 h2
   split at hc
   ·rename_i h3
    simp only [Bool.and_eq_true] at h3;simp only [Option.map_eq_some_iff] at hc;obtain⟨x,hx,rfl⟩:=hc;exact ygm R rfl h2 h3.1 h3.2 hx h
   ·cases hc
  ·rename_i h1 h2
   split at hc
   ·rename_i h3
    simp only [Bool.and_eq_true] at h3;simp only [Option.map_eq_some_iff] at hc;obtain⟨x,hx,rfl⟩:=hc;exact ygi R rfl h2 (of_decide_eq_true h3.2) h3.1 hx h
   ·cases hc
  ·cases hc
 case h_4=>
  split at hc
  ·rename_i h1
   split at hc
   ·rename_i h2 h3
    split at hc
    ·rename_i h4
     simp only [Bool.and_eq_true,decide_eq_true_eq] at h4;simp only [Option.map_eq_some_iff] at hc;obtain⟨x,hx,rfl⟩:=hc;exact xu4 R rfl h1 h2 h4.1 h4.2.1 h4.2.2.1 h4.2.2.2 hx h.1 h.2
    ·cases hc
   ·cases hc
  ·cases hc
 case h_5=>
  split at hc
  ·rename_i h1
   simp only [Option.map_eq_some_iff,Option.bind_eq_some_iff] at hc;obtain⟨x,hx,y,hy,rfl⟩:=hc;exact yvr R rfl h1 (dX R hx) (dX R hy) h
  ·cases hc
 case h_6=>
  split at hc
  ·rename_i h1
   split at hc
   ·rename_i h2
    simp only [Option.map_eq_some_iff,Option.bind_eq_some_iff] at hc;obtain⟨x,hx,lo,hlo,hi,hhi,mx,hmx,rfl⟩:=hc;exact yuv R rfl h1 h2 hlo hhi hmx (dX R hx) h
   ·cases hc
  ·rename_i h1
   split at hc
   ·rename_i h2
    simp only [Option.map_eq_some_iff,Option.bind_eq_some_iff] at hc;obtain⟨x,hx,lo,hlo,hi,hhi,mx,hmx,rfl⟩:=hc;exact yuu R rfl h1 h2 hlo hhi hmx (dX R hx) h
   ·cases hc
  ·cases hc
 case h_7=>
  split at hc
  ·rename_i h1
   split at hc
   ·rename_i h2 h3
    split at hc
    ·rename_i h4
     simp only [Bool.and_eq_true,decide_eq_true_eq] at h4;simp only [Option.map_eq_some_iff,Option.bind_eq_some_iff] at hc;obtain⟨x,hx,y,hy,rfl⟩:=hc;unfold dV at h⊢;simp only at h⊢;split at h
     ·rename_i k l k' c e1 e2
      have hX:=dX R hx;have hY:=dX R hy;rw [e1] at hX;rw [e2] at hY;exact yoz R rfl h1 h2 h4.1 h4.2.1 h4.2.2 (yfm h4.1) (rd_int hX).1 (rd_int hY).1 h.1 h.2.1 h.2.2.1 h.2.2.2
     ·exact h.elim
    ·cases hc
   ·cases hc
  ·cases hc
 case h_8 b as ts=>
  split at hc
  ·rename_i x y t t' e1 e2
   obtain⟨as⟩:=as;obtain⟨ts⟩:=ts;have e1:as=[x,y]:=e1;have e2:ts=[t,t']:=e2;subst e1 e2;split at hc
   ·rename_i ht
    subst ht;split at hc
    ·rename_i h1
     split at hc
     ·rename_i h2
      split at hc
      ·rename_i h3
       split at hc
       ·rename_i h4
        simp only [Option.map_eq_some_iff,Option.bind_eq_some_iff] at hc;obtain⟨x',hx,y',hy,rfl⟩:=hc;exact yg3 R rfl h1 h2 h3 h4.1 h4.2 (dX R hx) (dX R hy) h
       ·cases hc
      ·cases hc
     ·cases hc
    ·cases hc
   ·split at hc
    ·split at hc
     ·split at hc
      ·simp only [Option.map_eq_some_iff,Option.bind_eq_some_iff] at hc
       obtain⟨x',hx,y',hy,rfl⟩:=hc;exact h.elim
      ·cases hc
     ·cases hc
    ·cases hc
  ·split at hc
   ·split at hc
    ·split at hc
     ·split at hc
      ·simp only [Option.map_eq_some_iff,Option.bind_eq_some_iff] at hc
       obtain⟨x',hx,y',hy,rfl⟩:=hc;exact h.elim
      ·cases hc
     ·cases hc
    ·cases hc
   ·cases hc
  ·cases hc
 case h_9=>
  split at hc
  ·rename_i h1 h2
   split at hc
   ·rename_i h3
    simp only [Option.map_eq_some_iff] at hc;obtain⟨x,hx,rfl⟩:=hc;exact ygr R rfl h1 h2 h3 (dX R hx) h
   ·cases hc
  ·cases hc
 case h_10=>
  split at hc
  ·injection hc with hc
   subst hc;exact h.elim
  ·cases hc
 case h_11=>
  split at hc
  ·split at hc
   ·simp only [Option.map_eq_some_iff,Option.bind_eq_some_iff] at hc
    obtain⟨_,_,_,_,_,_,rfl⟩:=hc;exact h.elim
   ·cases hc
  ·cases hc
 case h_12=>
  split at hc
  ·split at hc
   ·split at hc
    ·simp only [Option.map_eq_some_iff,Option.bind_eq_some_iff] at hc
     obtain⟨_,_,_,_,rfl⟩:=hc;exact h.elim
    ·cases hc
   ·cases hc
  ·cases hc
 case h_13=>cases hc
end
end Rdn.Dp
namespace Rdn.Dp
open Go Go.RowKit Rdn
def V.noTups:List V→Bool
 |[]=>true
 | .tup _::_=>false
 |_::l=>V.noTups l
mutual
def V.res (σ:AS) (ids:List Nat):V→V
 | .own r g=>match ids.idxOf? r with
  |some i=> .own i 0
  |none=> .sl true (bT σ r g).1 (bT σ r g).2.1
 | .agg l=> .agg (V.ress σ ids l)
 | .tup l=> .tup (V.ress σ ids l)
 | .clo f l=> .clo f (V.ress σ ids l)
 | .int k n=> .int k n
 | .bool b=> .bool b
 | .str s=> .str s
 | .nilS=> .nilS
 | .arr s l=> .arr s l
 | .sl t s l=> .sl t s l
 | .ptr r g p o=> .ptr r g p o
 | .osl r g s a b=> .osl r g s a b
 | .rp x=> .rp x
 | .fn f=> .fn f
 | .lit f=> .lit f
 | .junk=> .junk
def V.ress (σ:AS) (ids:List Nat):List V→List V
 |[]=>[]
 |x::l=>x.res σ ids::V.ress σ ids l
end
mutual
def V.resOk (σ:AS):V→Prop
 | .own r g=>(bT σ r g).2.2
 | .agg l=>V.ressOk σ l
 | .tup l=>V.ressOk σ l
 | .clo f l=>V.ressOk σ l∧V.noTups l=true
 | .arr s l=>V.pures l=true
 | .int _ _=>True
 | .bool _=>True
 | .str _=>True
 | .nilS=>True
 | .sl _ _ _=>True
 | .fn _=>True
 | .lit _=>True
 | .ptr _ _ _ _=>False
 | .osl _ _ _ _ _=>False
 | .rp _=>True
 | .junk=>False
def V.ressOk (σ:AS):List V→Prop
 |[]=>True
 |x::l=>x.resOk σ∧V.ressOk σ l
end
mutual
def V.low:V→V
 | .sl t s l=> .sl false s (V.lows l)
 | .agg l=> .agg (V.lows l)
 | .arr s l=> .arr s (V.lows l)
 | .tup l=> .tup (V.lows l)
 | .clo f l=> .clo f (V.lows l)
 | .int k n=> .int k n
 | .bool b=> .bool b
 | .str s=> .str s
 | .nilS=> .nilS
 | .own r g=> .own r g
 | .ptr r g p o=> .ptr r g p o
 | .osl r g s a b=> .osl r g s a b
 | .rp x=> .rp x.low
 | .fn f=> .fn f
 | .lit f=> .lit f
 | .junk=> .junk
def V.lows:List V→List V
 |[]=>[]
 |x::l=>x.low::V.lows l
end
mutual
def V.fresh:V→Bool
 | .sl t s l=>t && V.freshs l
 | .agg l=>V.freshs l
 | .arr s l=>V.freshs l
 | .tup l=>V.freshs l
 | .clo f l=>f.isF && V.freshs l
 | .int _ _=>true
 | .bool _=>true
 | .str _=>true
 | .nilS=>true
 | .fn _=>true
 | .lit _=>true
 | .own _ _=>true
 | .ptr _ _ _ _=>true
 | .osl _ _ _ _ _=>true
 | .rp _=>false
 | .junk=>false
def V.freshs:List V→Bool
 |[]=>true
 |x::l=>x.fresh && V.freshs l
end
mutual
def V.shift (m:Nat):V→V
 | .own r g=> .own (m+r) g
 | .agg l=> .agg (V.shifts m l)
 | .tup l=> .tup (V.shifts m l)
 | .clo f l=> .clo f (V.shifts m l)
 | .sl t s l=> .sl t s l
 | .arr s l=> .arr s (V.shifts m l)
 | .int k n=> .int k n
 | .bool b=> .bool b
 | .str s=> .str s
 | .nilS=> .nilS
 | .ptr r g p o=> .ptr (m+r) g p o
 | .osl r g s a b=> .osl (m+r) g s a b
 | .rp x=> .rp x
 | .fn f=> .fn f
 | .lit f=> .lit f
 | .junk=> .junk
def V.shifts (m:Nat):List V→List V
 |[]=>[]
 |x::l=>x.shift m::V.shifts m l
end
mutual
theorem V.shift_size (m:Nat):∀x:V,(x.shift m).size=x.size
 | .sl t s l=>rfl
 | .agg l=>by simp only [V.shift,V.size];exact V.shifts_sizes m l
 | .arr s l=>by simp only [V.shift,V.size,V.shifts_len m l]
 | .tup l=>rfl
 | .clo f l=>rfl
 | .int k n=>rfl
 | .bool b=>rfl
 | .str s=>rfl
 | .nilS=>rfl
 | .own r g=>rfl
 | .ptr r g p o=>rfl
 | .osl r g s a b=>rfl
 | .rp x=>rfl
 | .fn f=>rfl
 | .lit f=>rfl
 | .junk=>rfl
theorem V.shifts_sizes (m:Nat):∀l:List V,V.sizes (V.shifts m l)=V.sizes l
 |[]=>rfl
 |x::l=>by simp only [V.shifts,V.sizes,V.shift_size m x,V.shifts_sizes m l]
theorem V.shifts_len (m:Nat):∀l:List V,(V.shifts m l).length=l.length
 |[]=>rfl
 |x::l=>by simp only [V.shifts,List.length_cons,V.shifts_len m l]
end
theorem V.shifts_map (m:Nat) (l:List V):V.shifts m l=l.map (V.shift m):=by
 induction l with
 |nil=>rfl
 |cons x l ih=>simp [V.shifts,ih]
mutual
theorem V.shift_pure (m:Nat):∀x:V,x.pure=true→x.shift m=x
 | .sl t s l,_=>rfl
 | .agg l,h=>by simp only [V.pure] at h;simp only [V.shift,V.shifts_pure m l h]
 | .arr s l,h=>by simp only [V.pure] at h;simp only [V.shift,V.shifts_pure m l h]
 | .tup l,h=>by simp [V.pure] at h
 | .clo f l,h=>by simp [V.pure] at h
 | .int k n,_=>rfl
 | .bool b,_=>rfl
 | .str s,_=>rfl
 | .nilS,_=>rfl
 | .own r g,h=>by simp [V.pure] at h
 | .ptr r g p o,h=>by simp [V.pure] at h
 | .osl r g s a b,h=>by simp [V.pure] at h
 | .rp x,_=>rfl
 | .fn f,_=>rfl
 | .lit f,_=>rfl
 | .junk,_=>rfl
theorem V.shifts_pure (m:Nat):∀l:List V,V.pures l=true→V.shifts m l=l
 |[],_=>rfl
 |x::l,h=>by
  simp only [V.pures,Bool.and_eq_true] at h;simp only [V.shifts,V.shift_pure m x h.1,V.shifts_pure m l h.2]
end
theorem yO (l:List V):V.lows l=l.map V.low:=by
 induction l with
 |nil=>rfl
 |cons x l ih=>simp [V.lows,ih]
theorem freshs_iff:∀{l:List V},V.freshs l=true↔∀x∈l,x.fresh=true
 |[]=>by simp [V.freshs]
 |x::l=>by simp [V.freshs,freshs_iff (l:=l)]
mutual
theorem V.low_size:∀x:V,x.low.size=x.size
 | .sl t s l=>rfl
 | .agg l=>by simp only [V.low,V.size];exact V.lows_sizes l
 | .arr s l=>by simp only [V.low,V.size,yO,List.length_map]
 | .tup l=>rfl
 | .clo f l=>rfl
 | .int k n=>rfl
 | .bool b=>rfl
 | .str s=>rfl
 | .nilS=>rfl
 | .own r g=>rfl
 | .ptr r g p o=>rfl
 | .osl r g s a b=>rfl
 | .rp x=>rfl
 | .fn f=>rfl
 | .lit f=>rfl
 | .junk=>rfl
theorem V.lows_sizes:∀l:List V,V.sizes (V.lows l)=V.sizes l
 |[]=>rfl
 |x::l=>by simp only [V.lows,V.sizes,V.low_size x,V.lows_sizes l]
end
mutual
theorem V.low_pure:∀x:V,x.low.pure=x.pure
 | .sl t s l=>rfl
 | .agg l=>by simp only [V.low,V.pure];exact V.lows_pures l
 | .arr s l=>by simp only [V.low,V.pure];exact V.lows_pures l
 | .tup l=>rfl
 | .clo f l=>rfl
 | .int k n=>rfl
 | .bool b=>rfl
 | .str s=>rfl
 | .nilS=>rfl
 | .own r g=>rfl
 | .ptr r g p o=>rfl
 | .osl r g s a b=>rfl
 | .rp x=>rfl
 | .fn f=>rfl
 | .lit f=>rfl
 | .junk=>rfl
theorem V.lows_pures:∀l:List V,V.pures (V.lows l)=V.pures l
 |[]=>rfl
 |x::l=>by simp only [V.lows,V.pures,V.low_pure x,V.lows_pures l]
end
theorem zG {s:Nat} {l:List V} (h:Unif s l):Unif s (V.lows l):=by
 intro x hx;rw [yO] at hx;obtain⟨y,hy,rfl⟩:=List.mem_map.1 hx;rw [V.low_size];exact h y hy
def lY (S:Nat→Prop):Env:=⟨S,fun _=>False,[]⟩
def lQ (w:World):Env:=lY fun b=>b<w.heap.size
section
variable {E:Env} {w:World}
mutual
theorem xf4 (hB:∀b,E.B b→b<w.heap.size):∀{x:V} {cs:List Value},x.pure=true→RdV E w x cs→RdV (lQ w) w x.low cs
 | .int k n,cs,_,h=>by simp only [RdV,V.low] at h⊢;exact h
 | .bool b,cs,_,h=>by simp only [RdV,V.low] at h⊢;exact h
 | .str b,cs,_,h=>by simp only [RdV,V.low] at h⊢;exact h
 | .nilS,cs,_,h=>by simp only [RdV,V.low] at h⊢;exact h
 | .agg l,cs,hp,h=>by simp only [V.pure] at hp;simp only [RdV,V.low] at h⊢;exact xis hB hp h
 | .arr s l,cs,hp,h=>by simp only [V.pure] at hp;simp only [RdV,V.low] at h⊢;exact⟨xis hB hp h.1,zG h.2⟩
 | .sl t s l,cs,hp,h=>by
  simp only [RdV,V.low] at h⊢;obtain⟨h1,h2,A,c,h3,h4,h5,h6⟩:=h;have hl:(V.lows l).length=l.length:=by simp [yO]
  refine⟨by rw [V.lows_pures];exact h1,zG h2,A,c,by rw [hl];exact h3,ω,ω,fun h0=>?_⟩;obtain⟨b,o,xs,hA,hb,hf,hr,ha⟩:=h6 ω;exact⟨b,o,xs,hA,hB b hb,by simp,xis hB h1 hr,ha⟩
 | .own r g,cs,hp,h=>by simp [V.pure] at hp
 | .ptr r g p o,cs,hp,h=>by simp [V.pure] at hp
 | .osl r g s a b,cs,hp,h=>by simp [V.pure] at hp
 | .rp x,cs,hp,h=>by simp [V.pure] at hp
 | .fn f,cs,hp,h=>by simp [V.pure] at hp
 | .lit f,cs,hp,h=>by simp [V.pure] at hp
 | .tup l,cs,hp,h=>by simp [V.pure] at hp
 | .clo f l,cs,hp,h=>by simp [V.pure] at hp
 | .junk,cs,hp,h=>by simp [V.pure] at hp
theorem xis (hB:∀b,E.B b→b<w.heap.size):∀{l:List V} {cs:List Value},V.pures l=true→RdL E w l cs→RdL (lQ w) w (V.lows l) cs
 |[],xs,_,h=>by simp only [RdL,V.lows] at h⊢;exact h
 |a::l,xs,hp,h=>by
  simp only [V.pures,Bool.and_eq_true] at hp;simp only [RdL,V.lows] at h⊢;obtain⟨c,ys,h1,h2,h3⟩:=h;exact⟨c,ys,h1,xf4 hB hp.1 h2,xis hB hp.2 h3⟩
end
end
section
variable {cx:Cx} {E:Env} {σ:AS} {a:Act} {w:World}
theorem ybr (R:Rel cx E σ a w) {r g:Nat} {v:Value} (h:RdT E w (.own r g) v) (hg:(bT σ r g).2.2):RdV (lQ w) w (V.low (.sl true (bT σ r g).1 (bT σ r g).2.1)) [v]:=by
 obtain⟨e',lv,s',l,xs,q1,q2,q3,q4,q5,q6,q7,q8,q9,q10,q11⟩:=xeb R h hg;rw [q2,q3];simp only [V.low,RdV];have hl:(V.lows l).length=l.length:=by simp [yO]
 refine⟨by rw [V.lows_pures];exact q5,zG q6,?_⟩;rcases q9.2 with ⟨rfl,hn⟩|⟨b,cap,cur,rfl,m1,m2,m3,m4,m5,m6⟩
 ·exact⟨none,0,by rw [hl,hn],ω,ω,fun h0=>by omega⟩
 ·refine⟨_,cap,by rw [hl],ω,ω,fun h0=>⟨b,0,xs,rfl,xcr m2,by simp,xis R.lt q5 q10,fun j v hv=>?_⟩⟩
  rw [←m6,List.getElem?_take] at hv;split at hv
  ·simpa [World.cell?,m2] using hv
  ·cases hv
mutual
theorem zK (R:Rel cx E σ a w):∀{x:V} {cs:List Value},V.resOk σ x→RdV E w x cs→RdV (lQ w) w (x.res σ []).low cs
 | .int k n,cs,_,h=>by simp only [RdV,V.low,V.res] at h⊢;exact h
 | .bool b,cs,_,h=>by simp only [RdV,V.low,V.res] at h⊢;exact h
 | .str b,cs,_,h=>by simp only [RdV,V.low,V.res] at h⊢;exact h
 | .nilS,cs,_,h=>by simp only [RdV,V.low,V.res] at h⊢;exact h
 | .agg l,cs,hp,h=>by simp only [V.resOk] at hp;simp only [RdV,V.low,V.res] at h⊢;exact xtu R hp h
 | .arr s l,cs,hp,h=>by simp only [V.res];exact xf4 R.lt (by simpa [V.resOk,V.pure] using hp) h
 | .sl t s l,cs,hp,h=>by simp only [V.res];exact xf4 R.lt rfl h
 | .own r g,cs,hp,h=>by
  have h':=h;simp only [RdV] at h';obtain⟨v,rfl,_⟩:=h';simp only [V.resOk] at hp;simp only [V.res,List.idxOf?_nil];exact ybr R (by simpa [RdT] using h) hp
 | .ptr r g p o,cs,hp,h=>by simp [V.resOk] at hp
 | .osl r g s a b,cs,hp,h=>by simp [V.resOk] at hp
 | .rp x,cs,hp,h=>by
  simp only [RdV,V.low,V.res] at h⊢;obtain⟨h1,b,o,xs,h2,h3,h4,h5⟩:=h;exact⟨by rw [V.low_pure];exact h1,b,o,xs,h2,R.lt b h3,xf4 R.lt h1 h4,h5⟩
 | .fn f,cs,hp,h=>by simp only [RdV,V.low,V.res] at h⊢;exact h
 | .lit f,cs,hp,h=>by simp only [RdV,V.low,V.res] at h⊢;exact h
 | .tup l,cs,hp,h=>by simp only [RdV] at h
 | .clo f l,cs,hp,h=>by simp only [RdV] at h
 | .junk,cs,hp,h=>by simp only [RdV] at h
theorem xtu (R:Rel cx E σ a w):∀{l:List V} {cs:List Value},V.ressOk σ l→RdL E w l cs→RdL (lQ w) w (V.lows (V.ress σ [] l)) cs
 |[],xs,_,h=>by simp only [RdL,V.lows,V.ress] at h⊢;exact h
 |a::l,xs,hp,h=>by
  simp only [V.ressOk] at hp;simp only [RdL,V.lows,V.ress] at h⊢;obtain⟨c,ys,h1,h2,h3⟩:=h;exact⟨c,ys,h1,zK R hp.1 h2,xtu R hp.2 h3⟩
end
mutual
theorem xtr (R:Rel cx E σ a w):∀{x:V} {v:Value},V.resOk σ x→(∀l,x≠.tup l)→RdT E w x v→RdT (lQ w) w (x.res σ []).low v
 | .int k n,v,hp,_,h=>by have:=zK R hp (by simpa only [RdT] using h);simpa only [RdT,V.res,V.low] using this
 | .bool b,v,hp,_,h=>by have:=zK R hp (by simpa only [RdT] using h);simpa only [RdT,V.res,V.low] using this
 | .str b,v,hp,_,h=>by have:=zK R hp (by simpa only [RdT] using h);simpa only [RdT,V.res,V.low] using this
 | .nilS,v,hp,_,h=>by have:=zK R hp (by simpa only [RdT] using h);simpa only [RdT,V.res,V.low] using this
 | .agg l,v,hp,_,h=>by
  simp only [RdT] at h;obtain⟨cs,rfl,h⟩:=h;have:=zK R hp h;simp only [V.res,V.low] at this⊢;simp only [RdT];exact⟨cs,rfl,this⟩
 | .arr s l,v,hp,_,h=>by
  simp only [RdT] at h;obtain⟨cs,rfl,h⟩:=h;have:=zK R hp h;simp only [V.res,V.low] at this⊢;simp only [RdT];exact⟨cs,rfl,this⟩
 | .sl t s l,v,hp,_,h=>by have:=zK R hp (by simpa only [RdT] using h);simpa only [RdT,V.res,V.low] using this
 | .own r g,v,hp,_,h=>by
  have:=zK R hp (by simpa only [RdT] using h);simp only [V.res,List.idxOf?_nil,V.low] at this⊢;simpa only [RdT] using this
 | .ptr r g p o,v,hp,_,h=>by simp [V.resOk] at hp
 | .osl r g s a b,v,hp,_,h=>by simp [V.resOk] at hp
 | .rp x,v,hp,_,h=>by have:=zK R hp (by simpa only [RdT] using h);simpa only [RdT,V.res,V.low] using this
 | .fn f,v,hp,_,h=>by have:=zK R hp (by simpa only [RdT] using h);simpa only [RdT,V.res,V.low] using this
 | .lit f,v,hp,_,h=>by have:=zK R hp (by simpa only [RdT] using h);simpa only [RdT,V.res,V.low] using this
 | .tup l,v,hp,ht,h=>absurd rfl (ht l)
 | .clo f l,v,hp,ht,h=>by
  simp only [V.resOk] at hp;simp only [RdT,V.res,V.low] at h⊢;obtain⟨vs,h1,h2⟩:=h;exact⟨vs,h1.mono fun b hb=>⟨R.lt b hb,rfl⟩,xo0 R hp.1 hp.2 h2⟩
 | .junk,v,hp,_,h=>by simp [V.resOk] at hp
theorem xo0 (R:Rel cx E σ a w):∀{l:List V} {vs:List Value},V.ressOk σ l→V.noTups l=true→RdTs E w l vs→RdTs (lQ w) w (V.lows (V.ress σ [] l)) vs
 |[],xs,_,_,h=>by simp only [RdTs,V.lows,V.ress] at h⊢;exact h
 |a::l,xs,hp,ht,h=>by
  simp only [V.ressOk] at hp;have ht':(∀m,a≠.tup m)∧V.noTups l=true:=by
   cases a<;>simp_all [V.noTups]
  simp only [RdTs,V.lows,V.ress] at h⊢;obtain⟨c,ys,h1,h2,h3⟩:=h;exact⟨c,ys,h1,xtr R hp.1 ht'.1 h2,xo0 R hp.2 ht'.2 h3⟩
end
end
section
variable {E E0:Env} {w:World}
mutual
theorem xa2 (hB:∀b,E.B b→E0.B b):∀{x:V} {cs:List Value},x.pure=true→RdV E w x cs→RdV E0 w x.low cs
 | .int k n,cs,_,h=>by simp only [RdV,V.low] at h⊢;exact h
 | .bool b,cs,_,h=>by simp only [RdV,V.low] at h⊢;exact h
 | .str b,cs,_,h=>by simp only [RdV,V.low] at h⊢;exact h
 | .nilS,cs,_,h=>by simp only [RdV,V.low] at h⊢;exact h
 | .agg l,cs,hp,h=>by simp only [V.pure] at hp;simp only [RdV,V.low] at h⊢;exact xlg hB hp h
 | .arr s l,cs,hp,h=>by simp only [V.pure] at hp;simp only [RdV,V.low] at h⊢;exact⟨xlg hB hp h.1,zG h.2⟩
 | .sl t s l,cs,hp,h=>by
  simp only [RdV,V.low] at h⊢;obtain⟨h1,h2,A,c,h3,h4,h5,h6⟩:=h;have hl:(V.lows l).length=l.length:=by simp [yO]
  refine⟨by rw [V.lows_pures];exact h1,zG h2,A,c,by rw [hl];exact h3,ω,ω,fun h0=>?_⟩;obtain⟨b,o,xs,hA,hb,hf,hr,ha⟩:=h6 ω;exact⟨b,o,xs,hA,hB b hb,by simp,xlg hB h1 hr,ha⟩
 | .own r g,cs,hp,h=>by simp [V.pure] at hp
 | .ptr r g p o,cs,hp,h=>by simp [V.pure] at hp
 | .osl r g s a b,cs,hp,h=>by simp [V.pure] at hp
 | .rp x,cs,hp,h=>by simp [V.pure] at hp
 | .fn f,cs,hp,h=>by simp [V.pure] at hp
 | .lit f,cs,hp,h=>by simp [V.pure] at hp
 | .tup l,cs,hp,h=>by simp [V.pure] at hp
 | .clo f l,cs,hp,h=>by simp [V.pure] at hp
 | .junk,cs,hp,h=>by simp [V.pure] at hp
theorem xlg (hB:∀b,E.B b→E0.B b):∀{l:List V} {cs:List Value},V.pures l=true→RdL E w l cs→RdL E0 w (V.lows l) cs
 |[],xs,_,h=>by simp only [RdL,V.lows] at h⊢;exact h
 |a::l,xs,hp,h=>by
  simp only [V.pures,Bool.and_eq_true] at hp;simp only [RdL,V.lows] at h⊢;obtain⟨c,ys,h1,h2,h3⟩:=h;exact⟨c,ys,h1,xa2 hB hp.1 h2,xlg hB hp.2 h3⟩
end
end
section
variable {E:Env} {w:World}
theorem xf3 {E0:Env} (hB:∀b,E.B b→E0.B b):∀{x:V} {v:Value},x.pure=true→RdT E w x v→RdT E0 w x.low v
 | .agg l,v,hp,h=>by
  simp only [RdT,V.low] at h⊢;obtain⟨cs,rfl,h⟩:=h;exact⟨cs,rfl,xa2 hB hp h⟩
 | .arr s l,v,hp,h=>by
  simp only [RdT,V.low] at h⊢;obtain⟨cs,rfl,h⟩:=h;exact⟨cs,rfl,xa2 hB hp h⟩
 | .int k n,v,hp,h=>by simp only [RdT,V.low] at h⊢;exact xa2 hB hp h
 | .bool b,v,hp,h=>by simp only [RdT,V.low] at h⊢;exact xa2 hB hp h
 | .str b,v,hp,h=>by simp only [RdT,V.low] at h⊢;exact xa2 hB hp h
 | .nilS,v,hp,h=>by simp only [RdT,V.low] at h⊢;exact xa2 hB hp h
 | .sl t s l,v,hp,h=>by simp only [RdT,V.low] at h⊢;exact xa2 hB hp h
 | .own r g,cs,hp,h=>by simp [V.pure] at hp
 | .ptr r g p o,cs,hp,h=>by simp [V.pure] at hp
 | .osl r g s a b,cs,hp,h=>by simp [V.pure] at hp
 | .rp x,cs,hp,h=>by simp [V.pure] at hp
 | .fn f,cs,hp,h=>by simp [V.pure] at hp
 | .lit f,cs,hp,h=>by simp [V.pure] at hp
 | .tup l,cs,hp,h=>by simp [V.pure] at hp
 | .clo f l,cs,hp,h=>by simp [V.pure] at hp
 | .junk,cs,hp,h=>by simp [V.pure] at hp
theorem xir {E0:Env} (hB:∀b,E.B b→E0.B b):∀{l:List V} {vs:List Value},V.pures l=true→RdTs E w l vs→RdTs E0 w (V.lows l) vs
 |[],vs,_,h=>by simp only [RdTs,V.lows] at h⊢;exact h
 |x::l,vs,hp,h=>by
  simp only [V.pures,Bool.and_eq_true] at hp;simp only [RdTs,V.lows] at h⊢;obtain⟨c,ys,h1,h2,h3⟩:=h;exact⟨c,ys,h1,xf3 hB hp.1 h2,xir hB hp.2 h3⟩
end
mutual
theorem V.res_pure (σ:AS) (ids:List Nat):∀x:V,x.pure=true→x.res σ ids=x
 | .agg l,h=>by simp only [V.pure] at h;simp only [V.res,V.ress_pure σ ids l h]
 | .arr s l,_=>rfl
 | .int _ _,_=>rfl
 | .bool _,_=>rfl
 | .str _,_=>rfl
 | .nilS,_=>rfl
 | .sl _ _ _,_=>rfl
 | .own r g,h=>by simp [V.pure] at h
 | .ptr r g p o,h=>by simp [V.pure] at h
 | .osl r g s a b,h=>by simp [V.pure] at h
 | .rp x,h=>by simp [V.pure] at h
 | .fn f,h=>by simp [V.pure] at h
 | .lit f,h=>by simp [V.pure] at h
 | .tup l,h=>by simp [V.pure] at h
 | .clo f l,h=>by simp [V.pure] at h
 | .junk,h=>by simp [V.pure] at h
theorem V.ress_pure (σ:AS) (ids:List Nat):∀l:List V,V.pures l=true→V.ress σ ids l=l
 |[],_=>rfl
 |x::l,h=>by
  simp only [V.pures,Bool.and_eq_true] at h;simp only [V.ress,V.res_pure σ ids x h.1,V.ress_pure σ ids l h.2]
end
def ResOk (w w':World) (S:Nat→Prop) (x:V) (obs:List Ob) (v:Value):Prop:=
 ∃E',(∀b,E'.B b→S b∨w.heap.size≤b)∧(∀o∈obs,o.live=true∧o.g=0)∧Rel ⟨w,fun _=>False,S⟩ E' ⟨1,[(0,x)],obs⟩ ⟨#[v],[]⟩ w'
def Fnc (P:Program) (f:FuncId) (xs:List V) (R:V→List Ob→Prop):Prop:=
 ∀(w:World) (S:Nat→Prop) (vs:List Value),(∀b,S b→b<w.heap.size)→RdTs (lY S) w xs vs→Calls P f vs.toArray w fun e w'=>∃x obs v,R x obs∧e=.returned v∧ResOk w w' S x obs v
section
variable {E E':Env} {w:World}
mutual
theorem wH (hr:E'.ref=E.ref) (hB:∀b,E.B b→E.F b→E'.B b) (hF:∀b,E.F b→E'.F b):∀{x:V} {cs:List Value},x.fresh=true→RdV E w x cs→RdV E' w x cs
 | .int k n,cs,_,h=>by simp only [RdV] at h⊢;exact h
 | .bool b,cs,_,h=>by simp only [RdV] at h⊢;exact h
 | .str b,cs,_,h=>by simp only [RdV] at h⊢;exact h
 | .nilS,cs,_,h=>by simp only [RdV] at h⊢;exact h
 | .agg l,cs,hf,h=>by simp only [V.fresh] at hf;simp only [RdV] at h⊢;exact xgh hr hB hF hf h
 | .arr s l,cs,hf,h=>by simp only [V.fresh] at hf;simp only [RdV] at h⊢;exact⟨xgh hr hB hF hf h.1,h.2⟩
 | .sl t s l,cs,hf,h=>by
  simp only [V.fresh,Bool.and_eq_true] at hf;simp only [RdV] at h⊢;obtain⟨h1,h2,A,c,h3,h4,h5,h6⟩:=h;refine⟨h1,h2,A,c,h3,h4,h5,fun h0=>?_⟩;obtain⟨b,o,xs,hA,hb,hff,hr',ha⟩:=h6 h0;exact⟨b,o,xs,hA,hB b hb (hff hf.1),fun _=>hF b (hff hf.1),xgh hr hB hF hf.2 hr',ha⟩
 | .own r g,cs,hf,h=>by simp only [RdV] at h⊢;rw [hr];exact h
 | .ptr r g p o,cs,hf,h=>by simp only [RdV] at h⊢;rw [hr];exact h
 | .osl r g s a b,cs,hf,h=>by simp only [RdV] at h⊢;rw [hr];exact h
 | .rp x,cs,hf,h=>by simp [V.fresh] at hf
 | .fn f,cs,_,h=>by simp only [RdV] at h⊢;exact h
 | .lit f,cs,_,h=>by simp only [RdV] at h⊢;exact h
 | .tup l,cs,_,h=>by simp only [RdV] at h
 | .clo f l,cs,_,h=>by simp only [RdV] at h
 | .junk,cs,_,h=>by simp only [RdV] at h
theorem xgh (hr:E'.ref=E.ref) (hB:∀b,E.B b→E.F b→E'.B b) (hF:∀b,E.F b→E'.F b):∀{l:List V} {cs:List Value},V.freshs l=true→RdL E w l cs→RdL E' w l cs
 |[],xs,_,h=>by simp only [RdL] at h⊢;exact h
 |a::l,xs,hf,h=>by
  simp only [V.freshs,Bool.and_eq_true] at hf;simp only [RdL] at h⊢;obtain⟨c,ys,h1,h2,h3⟩:=h;exact⟨c,ys,h1,wH hr hB hF hf.1 h2,xgh hr hB hF hf.2 h3⟩
end
mutual
theorem xwo (hr:E'.ref=E.ref) (hB:∀b,E.B b→E.F b→E'.B b) (hF:∀b,E.F b→E'.F b):∀{x:V} {v:Value},x.fresh=true→RdT E w x v→RdT E' w x v
 | .int k n,v,hf,h=>by simp only [RdT] at h⊢;exact wH hr hB hF hf h
 | .bool b,v,hf,h=>by simp only [RdT] at h⊢;exact wH hr hB hF hf h
 | .str b,v,hf,h=>by simp only [RdT] at h⊢;exact wH hr hB hF hf h
 | .nilS,v,hf,h=>by simp only [RdT] at h⊢;exact wH hr hB hF hf h
 | .agg l,v,hf,h=>by simp only [RdT] at h⊢;obtain⟨cs,h1,h2⟩:=h;exact⟨cs,h1,wH hr hB hF hf h2⟩
 | .arr s l,v,hf,h=>by simp only [RdT] at h⊢;obtain⟨cs,h1,h2⟩:=h;exact⟨cs,h1,wH hr hB hF hf h2⟩
 | .sl t s l,v,hf,h=>by simp only [RdT] at h⊢;exact wH hr hB hF hf h
 | .own r g,v,hf,h=>by simp only [RdT] at h⊢;exact wH hr hB hF hf h
 | .ptr r g p o,v,hf,h=>by simp only [RdT] at h⊢;exact wH hr hB hF hf h
 | .osl r g s a b,v,hf,h=>by simp only [RdT] at h⊢;exact wH hr hB hF hf h
 | .rp x,v,hf,h=>by simp only [RdT] at h⊢;exact wH hr hB hF hf h
 | .fn f,v,hf,h=>by simp only [RdT] at h⊢;exact wH hr hB hF hf h
 | .lit f,v,hf,h=>by simp only [RdT] at h⊢;exact wH hr hB hF hf h
 | .tup l,v,hf,h=>by
  simp only [V.fresh] at hf;simp only [RdT] at h⊢;obtain⟨vs,h1,h2⟩:=h;exact⟨vs,h1,xpo hr hB hF hf h2⟩
 | .clo f l,v,hf,h=>by
  simp only [V.fresh,Bool.and_eq_true] at hf;simp only [RdT] at h⊢;obtain⟨vs,h1,h2⟩:=h;exact⟨vs,h1.isF hf.1,xpo hr hB hF hf.2 h2⟩
 | .junk,v,hf,h=>by simp only [RdT]
theorem xpo (hr:E'.ref=E.ref) (hB:∀b,E.B b→E.F b→E'.B b) (hF:∀b,E.F b→E'.F b):∀{l:List V} {vs:List Value},V.freshs l=true→RdTs E w l vs→RdTs E' w l vs
 |[],xs,_,h=>by simp only [RdTs] at h⊢;exact h
 |a::l,xs,hf,h=>by
  simp only [V.freshs,Bool.and_eq_true] at hf;simp only [RdTs] at h⊢;obtain⟨c,ys,h1,h2,h3⟩:=h;exact⟨c,ys,h1,xwo hr hB hF hf.1 h2,xpo hr hB hF hf.2 h3⟩
end
mutual
theorem xbw:∀{x:V} {cs:List Value},RdV E w x cs→RdV E w x.low cs
 | .int k n,cs,h=>by simp only [RdV,V.low] at h⊢;exact h
 | .bool b,cs,h=>by simp only [RdV,V.low] at h⊢;exact h
 | .str b,cs,h=>by simp only [RdV,V.low] at h⊢;exact h
 | .nilS,cs,h=>by simp only [RdV,V.low] at h⊢;exact h
 | .agg l,cs,h=>by simp only [RdV,V.low] at h⊢;exact xbx h
 | .arr s l,cs,h=>by simp only [RdV,V.low] at h⊢;exact⟨xbx h.1,zG h.2⟩
 | .sl t s l,cs,h=>by
  simp only [RdV,V.low] at h⊢;obtain⟨h1,h2,A,c,h3,h4,h5,h6⟩:=h;have hl:(V.lows l).length=l.length:=by simp [yO]
  refine⟨by rw [V.lows_pures];exact h1,zG h2,A,c,by rw [hl];exact h3,ω,ω,fun h0=>?_⟩;obtain⟨b,o,xs,hA,hb,hff,hr',ha⟩:=h6 ω;exact⟨b,o,xs,hA,hb,by simp,xbx hr',ha⟩
 | .own r g,cs,h=>by simp only [V.low];exact h
 | .ptr r g p o,cs,h=>by simp only [V.low];exact h
 | .osl r g s a b,cs,h=>by simp only [V.low];exact h
 | .rp x,cs,h=>by
  simp only [RdV,V.low] at h⊢;obtain⟨h1,b,o,xs,h2,h3,h4,h5⟩:=h;exact⟨by rw [V.low_pure];exact h1,b,o,xs,h2,h3,xbw h4,h5⟩
 | .fn f,cs,h=>by simp only [V.low];exact h
 | .lit f,cs,h=>by simp only [V.low];exact h
 | .tup l,cs,h=>by simp only [RdV] at h
 | .clo f l,cs,h=>by simp only [RdV] at h
 | .junk,cs,h=>by simp only [RdV] at h
theorem xbx:∀{l:List V} {cs:List Value},RdL E w l cs→RdL E w (V.lows l) cs
 |[],xs,h=>by simp only [RdL,V.lows] at h⊢;exact h
 |a::l,xs,h=>by
  simp only [RdL,V.lows] at h⊢;obtain⟨c,ys,h1,h2,h3⟩:=h;exact⟨c,ys,h1,xbw h2,xbx h3⟩
end
mutual
theorem xle:∀{x:V} {v:Value},RdT E w x v→RdT E w x.low v
 | .int k n,v,h=>by simp only [RdT,V.low] at h⊢;exact h
 | .bool b,v,h=>by simp only [RdT,V.low] at h⊢;exact h
 | .str b,v,h=>by simp only [RdT,V.low] at h⊢;exact h
 | .nilS,v,h=>by simp only [RdT,V.low] at h⊢;exact h
 | .agg l,v,h=>by simp only [RdT,V.low] at h⊢;obtain⟨cs,h1,h2⟩:=h;exact⟨cs,h1,xbw h2⟩
 | .arr s l,v,h=>by simp only [RdT,V.low] at h⊢;obtain⟨cs,h1,h2⟩:=h;exact⟨cs,h1,xbw h2⟩
 | .sl t s l,v,h=>by simp only [RdT,V.low] at h⊢;exact xbw h
 | .own r g,v,h=>by simp only [V.low];exact h
 | .ptr r g p o,v,h=>by simp only [V.low];exact h
 | .osl r g s a b,v,h=>by simp only [V.low];exact h
 | .rp x,v,h=>by have:=xbw (by simpa only [RdT] using h);simpa only [RdT,V.low] using this
 | .fn f,v,h=>by simp only [V.low];exact h
 | .lit f,v,h=>by simp only [V.low];exact h
 | .tup l,v,h=>by
  simp only [RdT,V.low] at h⊢;obtain⟨vs,h1,h2⟩:=h;exact⟨vs,h1,xq7 h2⟩
 | .clo f l,v,h=>by
  simp only [RdT,V.low] at h⊢;obtain⟨vs,h1,h2⟩:=h;exact⟨vs,h1,xq7 h2⟩
 | .junk,v,h=>by simp only [RdT,V.low]
theorem xq7:∀{l:List V} {vs:List Value},RdTs E w l vs→RdTs E w (V.lows l) vs
 |[],xs,h=>by simp only [RdTs,V.lows] at h⊢;exact h
 |a::l,xs,h=>by
  simp only [RdTs,V.lows] at h⊢;obtain⟨c,ys,h1,h2,h3⟩:=h;exact⟨c,ys,h1,xle h2,xq7 h3⟩
end
end
theorem ResOk.fresh {w w':World} {S:Nat→Prop} {x:V} {obs:List Ob} {v:Value} (h:ResOk w w' S x obs v) (hx:x.fresh=true) (ho:∀o∈obs,o.v.fresh=true):ResOk w w' (fun _=>False) x obs v:=by
 obtain⟨E1,h1,h2,R⟩:=h;have hB:∀b,E1.B b→E1.F b→(E1.B b∧w.heap.size≤b):=fun b hb hf=>⟨hb,(R.fr b).1 hf⟩;refine⟨{E1 with B:=fun b=>E1.B b∧w.heap.size≤b},fun b hb=> .inr hb.2,h2,R.df,R.n,fun i=>?_,R.len,fun r o hr=>?_,R.sep,fun b hb=>R.lt b hb.1,R.fr,fun b hb hlt=>?_,⟨R.keep.os,R.keep.tape,R.keep.output,R.keep.size,R.keep.block⟩⟩
 ·have:=R.tm i
  cases i with
  |zero=>
   simp only [aV,if_true] at this⊢;exact xwo (E:=E1) (E':={E1 with B:=fun b=>E1.B b∧w.heap.size≤b}) rfl hB (fun _ h=>h) hx this
  |succ i=>
   have e:aV [(0,x)] (i+1)=.junk:=by simp [aV]
   show RdT _ _ (aV [(0,x)] (i+1)) _;rw [e];simp only [RdT]
 ·obtain⟨u,k1,k2⟩:=R.ob r o hr
  have hl:=(h2 o (List.mem_of_getElem? hr)).1;have hf:=ho o (List.mem_of_getElem? hr);refine⟨u,k1,?_⟩;unfold OkO at k2⊢;split at k2
  ·obtain⟨b,cs,m1,m2,m3,m4,m5⟩:=k2
   rw [if_pos hl] at m5;exact⟨b,cs,m1,m2,wH (E:=E1) (E':={E1 with B:=fun b=>E1.B b∧w.heap.size≤b}) rfl hB (fun _ h=>h) hf m3,by
    split at m4
    ·exact m4.1.elim
    ·rename_i hq
     rw [if_neg hq];exact m4,by rw [if_pos hl];exact fun hb=>m5 hb.1⟩
  ·obtain⟨s,l,xs,m1,m2,m3,m4,m5,m6,m7,m8⟩:=k2
   rw [m1] at hf;simp only [V.fresh] at hf;refine⟨s,l,xs,m1,m2,m3,m4,m5,m6,xgh (E:=E1) (E':={E1 with B:=fun b=>E1.B b∧w.heap.size≤b}) rfl hB (fun _ h=>h) hf m7,fun b hb=>?_⟩;have:=m8 b hb;rw [if_pos hl] at this⊢;exact fun hb=>this hb.1
  ·obtain⟨m0,s,l,xs,m1,m3,m4,m5,m6,m7,m8⟩:=k2
   rw [m1] at hf;simp only [V.fresh] at hf;exact⟨m0,s,l,xs,m1,m3,m4,m5,m6,xgh (E:=E1) (E':={E1 with B:=fun b=>E1.B b∧w.heap.size≤b}) rfl hB (fun _ h=>h) hf m7,fun b hb=>⟨fun hb'=>(m8 b hb).1 hb'.1,(m8 b hb).2⟩⟩
 ·exact absurd hlt (Nat.not_lt.2 hb.2)
def Ob.low (o:Ob):Ob:={o with v:=o.v.low}
theorem ResOk.low {w w':World} {S:Nat→Prop} {x:V} {obs:List Ob} {v:Value} (h:ResOk w w' S x obs v):ResOk w w' S x.low (obs.map Ob.low) v:=by
 obtain⟨E1,h1,h2,R⟩:=h;have ol:∀(r:Nat) (o':Ob),(obs.map Ob.low)[r]?=some o'→∃o:Ob,obs[r]?=some o∧o'=o.low:=by
  intro r o' h;rw [List.getElem?_map,Option.map_eq_some_iff] at h;obtain⟨o,h,rfl⟩:=h;exact⟨o,h,rfl⟩
 refine⟨E1,h1,fun o ho=>?_,R.df,R.n,fun i=>?_,by simp [R.len],fun r o hr=>?_,fun r r' o o' g g' u u' b k1 k2 k3 k4 k5 k6 k7 k8 k9=>?_,R.lt,R.fr,R.old,R.keep⟩
 ·obtain⟨o1,ho1,rfl⟩:=List.mem_map.1 ho
  exact h2 o1 ho1
 ·have:=R.tm i
  cases i with
  |zero=>
   simp only [aV,if_true] at this⊢;exact xle this
  |succ i=>
   have e:aV [(0,x.low)] (i+1)=.junk:=by simp [aV]
   show RdT _ _ (aV [(0,x.low)] (i+1)) _;rw [e];simp only [RdT]
 ·obtain⟨o1,h,rfl⟩:=ol r o hr
  obtain⟨u,k1,k2⟩:=R.ob r o1 h;refine⟨u,k1,?_⟩;unfold OkO at k2⊢;simp only [Ob.low];split at k2
  ·obtain⟨b,cs,m1,m2,m3,m4,m5⟩:=k2
   exact⟨b,cs,m1,m2,xbw m3,m4,by rw [V.low_pure];exact m5⟩
  ·obtain⟨s,l,xs,m1,m2,m3,m4,m5,m6,m7,m8⟩:=k2
   have hl:(V.lows l).length=l.length:=by simp [yO]
   exact⟨s,V.lows l,xs,by rw [m1];rfl,by rw [V.lows_pures];exact m2,zG m3,m4,ω,by rw [hl];exact m6,xbx m7,m8⟩
  ·obtain⟨m0,s,l,xs,m1,m3,m4,m5,m6,m7,m8⟩:=k2
   have hl:(V.lows l).length=l.length:=by simp [yO]
   exact⟨m0,s,V.lows l,xs,by rw [m1];rfl,zG m3,m4,ω,by rw [hl];exact m6,xbx m7,m8⟩
 ·obtain⟨o1,q1,rfl⟩:=ol r o k2
  obtain⟨o2,q2,rfl⟩:=ol r' o' k3;exact R.sep r r' o1 o2 g g' u u' b k1 q1 q2 k4 k5 k6 k7 k8 k9
section
variable {P:Program} {cx:Cx} {E:Env} {σ:AS} {a:Act} {w w':World}
theorem xb9 {E0 E1:Env} (hB:∀b,E1.B b→E0.B b) (hF:∀b,E1.F b→E0.F b) {x:V} {cs:List Value} (hp:x.pure=true) (h:RdV E1 w x cs):RdV E0 w x cs:=
 RdV.mono (E:={E1 with ref:=E0.ref}) ⟨fun b hb=>⟨hB b hb,rfl⟩,hF,Nat.le_refl _,fun r g u _ h=>⟨g,u,h,Nat.le_refl _,fun _=>rfl⟩⟩ (h.cutp hp)
theorem xh9 {E0 E1:Env} (hB:∀b,E1.B b→E0.B b) (hF:∀b,E1.F b→E0.F b) {l:List V} {cs:List Value} (hp:V.pures l=true) (h:RdL E1 w l cs):RdL E0 w l cs:=
 RdL.mono (E:={E1 with ref:=E0.ref}) ⟨fun b hb=>⟨hB b hb,rfl⟩,hF,Nat.le_refl _,fun r g u _ h=>⟨g,u,h,Nat.le_refl _,fun _=>rfl⟩⟩ (h.cutp hp)
mutual
theorem wO {E0 E1:Env} {m:Nat} (hB:∀b,E1.B b→E0.B b) (hF:∀b,E1.F b→E0.F b) (hl:m+E1.ref.length≤E0.ref.length) (hr:∀r,r<E1.ref.length→E0.ref[m+r]?=E1.ref[r]?):∀{x:V} {cs:List Value},RdV E1 w x cs→RdV E0 w (x.shift m) cs
 | .int k n,cs,h=>by simp only [RdV,V.shift] at h⊢;exact h
 | .bool b,cs,h=>by simp only [RdV,V.shift] at h⊢;exact h
 | .str b,cs,h=>by simp only [RdV,V.shift] at h⊢;exact h
 | .nilS,cs,h=>by simp only [RdV,V.shift] at h⊢;exact h
 | .agg l,cs,h=>by simp only [RdV,V.shift] at h⊢;exact xne hB hF hl hr h
 | .arr s l,cs,h=>by
  simp only [RdV,V.shift] at h⊢;refine⟨xne hB hF hl hr h.1,fun x hx=>?_⟩;rw [V.shifts_map] at hx;obtain⟨y,hy,rfl⟩:=List.mem_map.1 hx;rw [V.shift_size];exact h.2 y hy
 | .sl t s l,cs,h=>by simp only [V.shift];exact xb9 hB hF rfl h
 | .own r g,cs,h=>by
  simp only [RdV,V.shift] at h⊢;obtain⟨v,h1,h2,h3,h4⟩:=h;exact⟨v,h1,h2,ω,fun gc u hu=>h4 gc u (by rw [hr r h3] at hu;exact hu)⟩
 | .ptr r g p o,cs,h=>by
  simp only [RdV,V.shift] at h⊢;obtain⟨v,h1,h2,h3,h4⟩:=h;exact⟨v,h1,h2,ω,fun gc u hu=>h4 gc u (by rw [hr r h3] at hu;exact hu)⟩
 | .osl r g s a b,cs,h=>by
  simp only [RdV,V.shift] at h⊢;obtain⟨v,h1,h2,h3,h4⟩:=h;exact⟨v,h1,h2,ω,fun gc u hu=>h4 gc u (by rw [hr r h3] at hu;exact hu)⟩
 | .rp x,cs,h=>by
  simp only [RdV,V.shift] at h⊢;obtain⟨h1,b,o,xs,h2,h3,h4,h5⟩:=h;exact⟨h1,b,o,xs,h2,hB b h3,xb9 hB hF h1 h4,h5⟩
 | .fn f,cs,h=>by simp only [RdV,V.shift] at h⊢;exact h
 | .lit f,cs,h=>by simp only [RdV,V.shift] at h⊢;exact h
 | .tup l,cs,h=>by simp only [RdV] at h
 | .clo f l,cs,h=>by simp only [RdV] at h
 | .junk,cs,h=>by simp only [RdV] at h
theorem xne {E0 E1:Env} {m:Nat} (hB:∀b,E1.B b→E0.B b) (hF:∀b,E1.F b→E0.F b) (hl:m+E1.ref.length≤E0.ref.length) (hr:∀r,r<E1.ref.length→E0.ref[m+r]?=E1.ref[r]?):∀{l:List V} {cs:List Value},RdL E1 w l cs→RdL E0 w (V.shifts m l) cs
 |[],xs,h=>by simp only [RdL,V.shifts] at h⊢;exact h
 |a::l,xs,h=>by
  simp only [RdL,V.shifts] at h⊢;obtain⟨c,ys,h1,h2,h3⟩:=h;exact⟨c,ys,h1,wO hB hF hl hr h2,xne hB hF hl hr h3⟩
end
mutual
theorem xso {E0 E1:Env} {m:Nat} (hB:∀b,E1.B b→E0.B b) (hF:∀b,E1.F b→E0.F b) (hl:m+E1.ref.length≤E0.ref.length) (hr:∀r,r<E1.ref.length→E0.ref[m+r]?=E1.ref[r]?):∀{x:V} {v:Value},RdT E1 w x v→RdT E0 w (x.shift m) v
 | .int k n,v,h=>by have:=wO hB hF hl hr (by simpa only [RdT] using h);simpa only [RdT,V.shift] using this
 | .bool b,v,h=>by have:=wO hB hF hl hr (by simpa only [RdT] using h);simpa only [RdT,V.shift] using this
 | .str b,v,h=>by have:=wO hB hF hl hr (by simpa only [RdT] using h);simpa only [RdT,V.shift] using this
 | .nilS,v,h=>by have:=wO hB hF hl hr (by simpa only [RdT] using h);simpa only [RdT,V.shift] using this
 | .agg l,v,h=>by
  simp only [RdT] at h;obtain⟨cs,rfl,h⟩:=h;have:=wO hB hF hl hr h;simp only [V.shift] at this⊢;simp only [RdT];exact⟨cs,rfl,this⟩
 | .arr s l,v,h=>by
  simp only [RdT] at h;obtain⟨cs,rfl,h⟩:=h;have:=wO hB hF hl hr h;simp only [V.shift] at this⊢;simp only [RdT];exact⟨cs,rfl,this⟩
 | .sl t s l,v,h=>by have:=wO hB hF hl hr (by simpa only [RdT] using h);simpa only [RdT,V.shift] using this
 | .own r g,v,h=>by have:=wO hB hF hl hr (by simpa only [RdT] using h);simpa only [RdT,V.shift] using this
 | .ptr r g p o,v,h=>by have:=wO hB hF hl hr (by simpa only [RdT] using h);simpa only [RdT,V.shift] using this
 | .osl r g s a b,v,h=>by have:=wO hB hF hl hr (by simpa only [RdT] using h);simpa only [RdT,V.shift] using this
 | .rp x,v,h=>by have:=wO hB hF hl hr (by simpa only [RdT] using h);simpa only [RdT,V.shift] using this
 | .fn f,v,h=>by have:=wO hB hF hl hr (by simpa only [RdT] using h);simpa only [RdT,V.shift] using this
 | .lit f,v,h=>by have:=wO hB hF hl hr (by simpa only [RdT] using h);simpa only [RdT,V.shift] using this
 | .tup l,v,h=>by
  simp only [RdT,V.shift] at h⊢;obtain⟨vs,h1,h2⟩:=h;exact⟨vs,h1,xsp hB hF hl hr h2⟩
 | .clo f l,v,h=>by
  simp only [RdT,V.shift] at h⊢;obtain⟨vs,h1,h2⟩:=h;exact⟨vs,h1.mono fun b hb=>⟨hB b hb,rfl⟩,xsp hB hF hl hr h2⟩
 | .junk,v,h=>by simp only [RdT,V.shift]
theorem xsp {E0 E1:Env} {m:Nat} (hB:∀b,E1.B b→E0.B b) (hF:∀b,E1.F b→E0.F b) (hl:m+E1.ref.length≤E0.ref.length) (hr:∀r,r<E1.ref.length→E0.ref[m+r]?=E1.ref[r]?):∀{l:List V} {vs:List Value},RdTs E1 w l vs→RdTs E0 w (V.shifts m l) vs
 |[],xs,h=>by simp only [RdTs,V.shifts] at h⊢;exact h
 |a::l,xs,h=>by
  simp only [RdTs,V.shifts] at h⊢;obtain⟨c,ys,h1,h2,h3⟩:=h;exact⟨c,ys,h1,xso hB hF hl hr h2,xsp hB hF hl hr h3⟩
end
def Ob.shift (m:Nat) (o:Ob):Ob:={o with v:=o.v.shift m}
theorem Rel.back (R:Rel cx E σ a w) {S:Nat→Prop} (hS:∀b,S b→E.B b) {x:V} {obs:List Ob} {v:Value} (h:ResOk w w' S x obs v):
  ∃E',Leads E w E' w'∧RdT E' w' (x.shift σ.ob.length) v∧Rel cx E' {σ with ob:=σ.ob++obs.map (Ob.shift σ.ob.length)} a w':=by
 obtain⟨E1,hE1,hobs,R1⟩:=h;have hlen1:E1.ref.length=obs.length:=R1.len;have hBl:Below w.heap.size w w':=⟨R1.keep.os,R1.keep.tape,R1.keep.output,R1.keep.size,fun k hk=>R1.keep.block k hk (fun h=>h)⟩;have L:Leads E w ⟨fun b=>E.B b∨E1.B b,E.F,E.ref++E1.ref⟩ w':=by
  refine⟨fun b hb=>⟨.inl hb,hBl.block b (R.lt b hb)⟩,fun _ h=>h,by simp,fun r g u hr h=>⟨g,u,?_,Nat.le_refl _,fun _=>rfl⟩⟩;have h:(E.ref++E1.ref)[r]?=some (g,u):=h;rw [List.getElem?_append_left hr] at h;exact h
 have hwW:cx.W.heap.size≤w.heap.size:=R.keep.size;have hF:∀b,E1.F b→E.F b:=fun b hb=>by
  have:=(R1.fr b).1 hb;exact(R.fr b).2 (Nat.le_trans hwW this)
 have hrr:∀r,r<E1.ref.length→(E.ref++E1.ref)[σ.ob.length+r]?=E1.ref[r]?:=fun r hr=>by
  rw [List.getElem?_append_right (by rw [R.len];omega),R.len,Nat.add_sub_cancel_left]
 have sh:∀{x:V} {cs:List Value},RdV E1 w' x cs→RdV ⟨fun b=>E.B b∨E1.B b,E.F,E.ref++E1.ref⟩ w' (x.shift σ.ob.length) cs:=fun h=>
  wO (E0:=⟨fun b=>E.B b∨E1.B b,E.F,E.ref++E1.ref⟩) (fun b hb=> .inr hb) hF (by simp [R.len]) hrr h
 refine⟨⟨fun b=>E.B b∨E1.B b,E.F,E.ref++E1.ref⟩,L,?_,R.df,R.n,fun i=>(R.tm i).mono L,by simp [R.len,hlen1],fun r o hr=>?_,fun r r' o o' g g' u u' b h1 h2 h3 h4 h5 h6 h7 h8 h9=>?_,fun b hb=>?_,R.fr,fun b hb hlt=>?_,R.keep.trans (Keep.of_below (S:=cx.lent) hBl)⟩
 ·have:=R1.tm 0
  simp only [aV,if_true] at this;exact xso (E0:=⟨fun b=>E.B b∨E1.B b,E.F,E.ref++E1.ref⟩) (fun b hb=> .inr hb) hF (by simp [R.len]) hrr (by simpa using this)
 ·by_cases hlt:r<σ.ob.length
  ·rw [List.getElem?_append_left hlt] at hr
   obtain⟨u,k1,k2⟩:=R.ob r o hr;refine⟨u,by rw [List.getElem?_append_left (by rw [R.len];exact hlt)];exact k1,k2.keep L (fun b hb=>hBl.block b (k2.blk_lt hb)) (fun hl b hb hn hB=>?_)⟩;rcases hB with hB|hB
   ·exact hn hB
   ·rcases hE1 b hB with h|h
    ·exact hn (hS b h)
    ·have:=k2.blk_lt hb
     omega
  ·rw [List.getElem?_append_right ω,List.getElem?_map,Option.map_eq_some_iff] at hr
   obtain⟨o1,hr,rfl⟩:=hr;obtain⟨u,k1,k2⟩:=R1.ob _ o1 hr;refine⟨u,by rw [List.getElem?_append_right (by rw [R.len];omega),R.len];exact k1,?_⟩;obtain⟨hl1,hg1⟩:=hobs o1 (List.mem_of_getElem? hr);have hnB:∀b,aP u=some b→¬E1.B b→¬(E.B b∨E1.B b):=by
    intro b hb hn hB;rcases hB with hB|hB
    ·rcases k2.wr hb with h|h
     ·have:=R.lt b hB
      have h:w.heap.size≤b:=h;omega
     ·exact h
    ·exact hn hB
   unfold OkO at k2⊢;simp only [Ob.shift];split at k2
   ·rename_i q T hk
    obtain⟨b,cs,rfl,m1,m2,m3,m4⟩:=k2;rw [hl1] at m4;refine⟨b,cs,rfl,m1,sh m2,?_,?_⟩
    ·cases q with
     |true=>simp only [if_true,false_and] at m3
     |false=>
      simp only [Bool.false_eq_true,if_false] at m3⊢;exact Nat.le_trans hwW m3
    ·simp only [if_true] at m4
     show(if o1.live=true then ¬(E.B b∨E1.B b) else(E.B b∨E1.B b)∧E.F b∧(V.shift σ.ob.length o1.v).pure=true);rw [if_pos hl1];exact hnB b rfl m4
   ·obtain⟨s,l,xs,m1,m2,m3,m4,m5,m6,m7,m8⟩:=k2
    refine⟨s,l,xs,by rw [m1];simp only [V.shift,V.shifts_pure _ l m2],m2,m3,m4,m5,⟨m6.1,?_⟩,xh9 (E0:=⟨fun b=>E.B b∨E1.B b,E.F,E.ref++E1.ref⟩) (fun b hb=> .inr hb) hF m2 m7,fun b hb=>?_⟩
    ·rcases m6.2 with h|⟨g,cap,cur,e1,e2,e3⟩
     ·exact .inl h
     ·exact .inr ⟨g,cap,cur,e1,Nat.le_trans hwW e2,e3⟩
    ·have:=m8 b hb
     rw [hl1] at this;simp only [if_true] at this;show(if o1.live=true then ¬(E.B b∨E1.B b) else(E.B b∨E1.B b));rw [if_pos hl1];exact hnB b hb this
   ·obtain⟨m0,s,l,xs,m1,m3,m4,m5,m6,m7,m8⟩:=k2
    have hl:(V.shifts σ.ob.length l).length=l.length:=by rw [V.shifts_map,List.length_map]
    refine⟨m0,s,V.shifts σ.ob.length l,xs,by rw [m1];rfl,fun x hx=>?_,m4,ω,⟨by rw [hl];exact m6.1,?_⟩,xne (E0:=⟨fun b=>E.B b∨E1.B b,E.F,E.ref++E1.ref⟩) (fun b hb=> .inr hb) hF (by simp [R.len]) hrr m7,fun b hb=>⟨hnB b hb (m8 b hb).1,.inl ((m8 b hb).2.elim (Nat.le_trans hwW) False.elim)⟩⟩
    ·rw [V.shifts_map] at hx
     obtain⟨y,hy,rfl⟩:=List.mem_map.1 hx;rw [V.shift_size];exact m3 y hy
    ·rw [hl]
     rcases m6.2 with h|⟨g,cap,cur,e1,e2,e3⟩
     ·exact .inl h
     ·exact .inr ⟨g,cap,cur,e1,Nat.le_trans (OK.base_mono hwW _) e2,e3⟩
 ·have old:∀(r:Nat) (o:Ob) (g:Nat) (u:Value),r<σ.ob.length→(σ.ob++obs.map (Ob.shift σ.ob.length))[r]?=some o→(E.ref++E1.ref)[r]?=some (g,u)→σ.ob[r]?=some o∧E.ref[r]?=some (g,u):=by
   intro r o g u hlt q1 q2;rw [List.getElem?_append_left hlt] at q1;rw [List.getElem?_append_left (by rw [R.len];exact hlt)] at q2;exact⟨q1,q2⟩
  have new:∀(r:Nat) (o:Ob) (g:Nat) (u:Value),¬r<σ.ob.length→(σ.ob++obs.map (Ob.shift σ.ob.length))[r]?=some o→(E.ref++E1.ref)[r]?=some (g,u)→∃o1,obs[r-σ.ob.length]?=some o1∧o1.live=o.live∧E1.ref[r-σ.ob.length]?=some (g,u):=by
   intro r o g u hlt q1 q2;rw [List.getElem?_append_right ω,List.getElem?_map,Option.map_eq_some_iff] at q1;obtain⟨o1,q1,rfl⟩:=q1;rw [List.getElem?_append_right (by rw [R.len];omega),R.len] at q2;exact⟨o1,q1,rfl,q2⟩
  have cross:∀(r r':Nat) (o o':Ob) (g g':Nat) (u u':Value),r<σ.ob.length→¬r'<σ.ob.length→(σ.ob++obs.map (Ob.shift σ.ob.length))[r]?=some o→(σ.ob++obs.map (Ob.shift σ.ob.length))[r']?=some o'→(E.ref++E1.ref)[r]?=some (g,u)→(E.ref++E1.ref)[r']?=some (g',u')→aP u=some b→aP u'=some b→False:=by
   intro r r' o o' g g' u u' c1 c2 c3 c4 c5 c6 c7 c8;obtain⟨d1,d2⟩:=old r o g u c1 c3 c5;obtain⟨u2,e1,e2⟩:=R.ob r o d1;rw [d2] at e1;injection e1 with e1
   injection e1 with _ e1
   subst e1;have:=e2.blk_lt c7;obtain⟨o1,f1,f2,f3⟩:=new r' o' g' u' c2 c4 c6;obtain⟨u3,i1,i2⟩:=R1.ob _ o1 f1;rw [f3] at i1;injection i1 with i1
   injection i1 with _ i1
   subst i1;rcases i2.wr c8 with h|h
   ·have h:w.heap.size≤b:=h
    omega
   ·exact h
  by_cases hr:r<σ.ob.length
  ·by_cases hr':r'<σ.ob.length
   ·obtain⟨d1,d2⟩:=old r o g u hr h2 h6
    obtain⟨d3,d4⟩:=old r' o' g' u' hr' h3 h7;exact R.sep r r' o o' g g' u u' b h1 d1 d3 h4 h5 d2 d4 h8 h9
   ·exact cross r r' o o' g g' u u' hr hr' h2 h3 h6 h7 h8 h9
  ·by_cases hr':r'<σ.ob.length
   ·exact cross r' r o' o g' g u' u hr' hr h3 h2 h7 h6 h9 h8
   ·obtain⟨o1,f1,f2,f3⟩:=new r o g u hr h2 h6
    obtain⟨o2,i1,i2,i3⟩:=new r' o' g' u' hr' h3 h7;exact R1.sep _ _ o1 o2 g g' u u' b ω f1 i1 (by rw [f2];exact h4) (by rw [i2];exact h5) f3 i3 h8 h9
 ·rcases hb with hb|hb
  ·exact Nat.lt_of_lt_of_le (R.lt b hb) hBl.size
  ·exact R1.lt b hb
 ·rcases hb with hb|hb
  ·exact R.old b hb hlt
  ·rcases hE1 b hb with h|h
   ·exact R.old b (hS b h) hlt
   ·have:=R.keep.size
    omega
end
end Rdn.Dp
