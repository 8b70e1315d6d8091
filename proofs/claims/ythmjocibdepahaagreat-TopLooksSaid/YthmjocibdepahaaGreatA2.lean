import Derived.Test.YthmjocibdepahaaGreatA1
import Derived.ProofKit
import Derived.SizedLaws
import Derived.Deep.Slices
namespace Rdn
open Go Go.RowKit Go.WideShapes Go.ChangeShapes Go.Deep
def Reads (P:Program) (t:TypeId) {α:Type} (r:Sh α):Prop:=
 P.cellsOf t=r.size∧∀(H:Type) (enc:TypeId×Value→H) (w:World) (sp:Nat→Bool) (held:Bool) (fuel:Nat) (cs:List Value) (d:DataW H) (ps:List MemPlace),
  DataW.trod enc P w 0 sp held fuel t cs=some (d,ps)→(∀n∈d.weights P t,n≤reachBytes)→∃a,r.bd a∧r.rd (old w) w a cs
theorem Reads.int {P:Program} {t:TypeId} {k:IntKind} (hs:P.cellsOf t=1) (ht:P.underlying t=some (.int k)):Reads P t (Sh.int k):=by
 refine⟨hs,fun H enc w sp held fuel cs d ps h _=>?_⟩;obtain⟨n,rfl,_,hw⟩:=DataW.trod_int ht h;refine⟨n,trivial,rfl,?_⟩;simpa [Lit.wf,jE] using hw
theorem yfh {H:Type} {P:Program} {e:TypeId}:∀{l:List (DataW H)} {d:DataW H},d∈l→∀n∈d.weights P e,n∈DataW.weightsAll P e l
 |x::l,d,h,n,hn=>by
  simp only [DataW.weightsAll,List.mem_append];rcases List.mem_cons.1 h with rfl|h
  ·exact .inl hn
  ·exact .inr (yfh h n hn)
theorem xuq {α:Type} {Q:Nat→α→Prop}:∀n:Nat,(∀i,i<n→∃a,Q i a)→∃l:List α,l.length=n∧∀i (h:i<l.length),Q i l[i]
 |0,_=>⟨[],rfl,fun i h=>by simp at h⟩
 |n+1,h=>by
  obtain⟨l,hl,hq⟩:=xuq n (fun i hi=>h i (by omega));obtain⟨a,ha⟩:=h n (by omega);refine⟨l++[a],by simp [hl],fun i hi=>?_⟩;by_cases hc:i<l.length
  ·rw [List.getElem_append_left hc];exact hq i hc
  ·have:i=n:=by simp at hi;omega
   subst this;rw [List.getElem_append_right (by omega)];simpa [hl] using ha
theorem Reads.slice {P:Program} {t e:TypeId} {α:Type} {r:Sh α} (hs:P.cellsOf t=1) (ht:P.underlying t=some (.slice e)) (hpos:0<r.size) (hby:0<r.bytes∧r.bytes≤P.bytesOf e) (h:Reads P e r):Reads P t r.slice:=by
 refine⟨hs,fun H enc w sp held fuel cs d ps htr hw=>?_⟩;rcases open_slice ht htr with ⟨rfl,_⟩|⟨a,len,cap,m,n,D,Pl,rfl,_,hle,hcap,hm,hx,hi⟩
 ·exact⟨[],⟨by simp,by simp⟩,_,rfl,SlV.nil _ _ _⟩
 ·simp only [Prod.mk.injEq] at hx
  obtain⟨rfl,rfl⟩:=hx;have hlm:len≤m:=by rw [hm];split<;>omega
  have hwt:∀i,i<len→∀n∈(D i).weights P e,n≤reachBytes:=fun i hil n hn=>hw n (by
   simp only [DataW.weights,ht,List.mem_cons,List.mem_append];exact .inr (.inl (yfh (List.mem_map.2 ⟨i,List.mem_range.2 hil,rfl⟩) n hn)))
  have hel:∀i,i<len→∃x,r.bd x∧∃cs',w.cells? 0 (a.add (i*r.size)) r.size=some cs'∧r.rd (old w) w x cs':=fun i hil=>by
   obtain⟨cs',hc,hd⟩:=hi i (by omega);rw [h.1] at hc;obtain⟨x,kx,hx⟩:=h.2 H enc w sp held n cs' (D i) (Pl i) hd (hwt i hil);exact⟨x,kx,cs',hc,hx⟩
  obtain⟨l,hl,hq⟩:=xuq len hel;subst hl;have hbd:∀a∈l,r.bd a:=fun a ha=>by
   obtain⟨i,hi,rfl⟩:=List.mem_iff_getElem.1 ha;exact(hq i hi).1
  replace hq:=fun i h=>(hq i h).2;have hrb:l.length*r.bytes≤140737488351232:=by
   have h1:=hw _ (by simp only [DataW.weights,ht];exact List.mem_cons_self);simp only [List.length_map,List.length_range,reachBytes] at h1;have h2:l.length*r.bytes≤(l.length+(m-l.length))*P.bytesOf e:=Nat.mul_le_mul (by omega) hby.2;omega
  have hreach:l.length≤140737488351232:=by
   have h1:=hw _ (by simp only [DataW.weights,ht];exact List.mem_cons_self);simp only [List.length_map,List.length_range,reachBytes] at h1;have h2:l.length*1≤(l.length+(m-l.length))*P.bytesOf e:=Nat.mul_le_mul (by omega) (Nat.le_trans hby.1 hby.2);omega
  refine⟨l,⟨hrb,hbd⟩,_,rfl,some a,cap,rfl,hle,by omega,fun h0=>?_⟩;have hspot:a.spot=none∧a.block<w.heap.size:=by
   obtain⟨cs',hc,hr⟩:=hq 0 h0;obtain⟨_,hl',hc'⟩:=World.cells?_some hc;have h1:=hc' 0 hpos;simp only [Nat.zero_mul] at h1;have e0:(a.add 0).add 0=a:=by simp [Addr.add]
   rw [e0] at h1;have hlen:=r.len hr;obtain⟨u,hu⟩:∃u,cs'[0]?=some u:=⟨cs'[0],List.getElem?_eq_getElem (by omega)⟩;rw [hu] at h1;refine⟨?_,World.block_lt_of_cell? w a h1⟩;unfold World.cell? at h1;split at h1
   ·cases hsp:a.spot with
    |none=>rfl
    |some s=>simp [hsp] at h1
   ·cases h1
  obtain⟨b,o,s⟩:=a;simp only at hspot;obtain⟨rfl,hlt⟩:=hspot;refine⟨b,o,rfl,hlt,hlt,fun i hil=>?_⟩;obtain⟨cs',hc,hr⟩:=hq i hil;refine⟨cs',hr,fun j u hu=>?_⟩;obtain⟨_,hl',hc'⟩:=World.cells?_some hc;have hj:j<cs'.length:=(List.getElem?_eq_some_iff.1 hu).1;have h1:=hc' j (by rw [hl'] at hj;exact hj);rw [hu] at h1;rw [Addr.add_lit,Addr.add_lit] at h1;exact h1
section
variable {H:Type} {enc:TypeId×Value→H} {P:Program} {W:World}
theorem sized_at {ts:List TypeId} {ds:List (DataW H)} (hsz:(DataW.weightsEach P ts ds).all (· ≤reachBytes)=true) {j:Nat} {t:TypeId} {d:DataW H} (ht:ts[j]?=some t) (hd:ds[j]?=some d):∀n∈d.weights P t,n≤reachBytes:=by
 intro n hn;have:=List.all_eq_true.1 hsz n (DataW.weights_mem_each ht hd n hn);simpa using this
theorem arg_cell {t:TypeId} {v:Value} {d:DataW H} {p:List MemPlace} {sp:Nat→Bool} {held:Bool} {b0:Nat} {α:Type} {r:Sh α} (hr:Reads P t r) (hv:Value.okWide P W .any b0 t v)
  (hns:∀fs,P.underlying t≠some (.struct fs)) (hna:∀n e,P.underlying t≠some (.array n e))
  (h:DataW.Trod enc P W 0 sp held t v d p) (hw:∀n∈d.weights P t,n≤reachBytes):∃a,r.bd a∧r.rd (old W) W a [v]:=by
 obtain⟨fuel,hf⟩:=h;obtain⟨a,ka,ha⟩:=hr.2 H enc W sp held fuel _ d p hf hw;have hc:v.cells=#[v]:=by
  cases v with
  |agg cs=>
   exfalso
   unfold Value.okWide at hv;cases hu:P.underlying t with
   |none=>simp [hu,Cell.okWide,Cell.ok] at hv
   |some u=>
    cases u<;>simp_all [Cell.okWide,Cell.ok]
  |_=>rfl
 rw [hc] at ha;exact⟨a,ka,ha⟩
theorem yep {W':World} (hl:laidOutB P=true):∀{ts:List TypeId} {vs:List Value} {ds:List (DataW H)} {p:List MemPlace},(∀t∈ts,P.readableRec t=true)→(∀t∈ts,t<P.types.size)→
  DataW.TrodAll enc P W 0 (fun _=>true) true ts vs ds p→Below W.heap.size W W'→(∀x∈p,x.block<W.heap.size)→∀sp:Nat→Bool,(∀x∈p,sp x.block=true)→DataW.TrodAll enc P W' 0 sp true ts vs ds p
 |[],vs,ds,p,_,_,h,_,_,_,_=>by
  obtain⟨rfl,rfl,rfl⟩:=trodAll_nil h;rfl
 |t::ts,vs,ds,p,hr,hrow,h,hb,hlt,sp,hs=>by
  obtain⟨v,vs1,d,ds1,a,b,rfl,rfl,rfl,h1,h2⟩:=trodAll_cons h;refine⟨a,b,WideElems.Trod_stays hl (hr t (by simp)) (hrow t (by simp)) h1 (fun x hx=>hb.same (hlt x (by simp [hx]))) (fun x hx=>hs x (by simp [hx])),?_,rfl⟩;exact yep hl (fun u hu=>hr u (by simp [hu])) (fun u hu=>hrow u (by simp [hu])) h2 hb (fun x hx=>hlt x (by simp [hx])) sp (fun x hx=>hs x (by simp [hx]))
theorem law_post {f:Func} {s:ChangeSpec} {W':World} {args:Array Value} {ds gs:List (DataW H)} {before:List MemPlace} {tb:TypeId}
  (hl:laidOutB P=true) (hr:∀t∈f.params.toList,P.readableRec t=true) (hrow:∀t∈f.params.toList,t<P.types.size)
  (hW:DataW.Whole enc P f.params.toList s.vars false W args.toList ds gs before) (hv:s.vars=[])
  (hsr:(s.fn H (ds++gs)).results=[.lit (.bool true)]) (hsa:(s.fn H (ds++gs)).args=ds) (hsv:(s.fn H (ds++gs)).vars=[])
  (hres:f.resultTypes=#[tb]) (htb:P.underlying tb=some .bool) (hb:Below W.heap.size W W'):s.post enc P f false true false false W args (.bool true) W':=by
 have hlt:∀p∈before,p.block<W.heap.size:=fun p hp=>hW.lt p hp;have hold:∀p∈before,(fun b=>decide (b<W.heap.size)) p.block=true:=fun p hp=>by simpa using hlt p hp
 obtain⟨p,q,hA,hV,rfl,hfz,hnd⟩:=id hW;rw [hv] at hV;obtain⟨rfl,rfl⟩:=trodVars_none hV;rw [List.append_nil] at hlt hold hW;refine⟨ds,[],p,[],p,[],hW,?_,?_,?_,World.keptBut_mono (fun x hx=>⟨by simpa using hx,by simpa using hx⟩) (hb.frame (· ∈p)),fun h=>by cases h⟩
 ·rw [hsr,hres]
  exact trodAll_mk1 (shut_bool htb true)
 ·rw [hsa]
  exact yep hl hr hrow hA hb hlt _ hold
 ·rw [hv,hsv]
  rfl
end
end Rdn
