import Derived.WalkKit
import Derived.Deep.Draws
import Derived.Deep.QuietTactic
import Derived.Maps.AppendAt
import Derived.Still
import Derived.Lib.Hide
import Derived.Laws.BytesArg
import Derived.Deep.MidRow
set_option linter.unusedVariables false
namespace Rdn
open Go Go.RowKit
theorem ω {P:Prop} (h:P:=by omega):P:=h
theorem δ {P:Prop} (h:P:=by decide):P:=h
theorem ξ {P:Prop} (h:P:=by simp):P:=h
def At (w:World) (b o:Nat) (cs:List Value):Prop:=∀j u,cs[j]?=some u→w.cell? ⟨b,o+j,none⟩=some u
theorem At.keep {w w':World} {b o:Nat} {cs:List Value} (h:At w b o cs) (hb:w'.heap[b]?=w.heap[b]?):At w' b o cs:=
 fun j u hu=>(World.cell?_of_block (w:=w) (a:=⟨b,o+j,none⟩) hb).trans (h j u hu)
theorem At.left {w:World} {b o:Nat} {c d:List Value} (h:At w b o (c++d)):At w b o c:=by
 intro j u hu;refine h j u ?_;have:j<c.length:=(List.getElem?_eq_some_iff.1 hu).1;rw [List.getElem?_append_left this];exact hu
theorem At.right {w:World} {b o:Nat} {c d:List Value} (h:At w b o (c++d)):At w b (o+c.length) d:=by
 intro j u hu;have:=h (c.length+j) u (by rw [List.getElem?_append_right ω];simpa using hu)
 rwa [←Nat.add_assoc] at this
structure Sh (α:Type) where
 size:Nat
 bytes:Nat
 bd:α→Prop
 rd:(Nat→Prop)→World→α→List Value→Prop
 len:∀{S w a cs},rd S w a cs→cs.length=size
 one:∀{S w a cs},rd S w a cs→∀u∈cs,u.oneCell'=true
 mono:∀{S S':Nat→Prop} {w w':World} {a cs},(∀b,S b→S' b)→(∀b,S b→w'.heap[b]?=w.heap[b]?)→rd S w a cs→rd S' w' a cs
 bnd:∀{S:Nat→Prop} {w:World} {a cs},rd S w a cs→rd (fun b=>S b∧b<w.heap.size) w a cs
def jE (k:IntKind) (n:Int):Prop:=k.min≤n∧n≤k.max
def Sh.int (k:IntKind):Sh Int where
 size:=1
 bytes:=k.bits / 8
 bd:=fun _=>True
 rd:=fun _ _ n cs=>cs=[.int k n]∧jE k n
 len:=by rintro _ _ _ _ ⟨rfl,_⟩;rfl
 one:=by rintro _ _ _ _ ⟨rfl,_⟩ u hu;simp at hu;subst hu;rfl
 mono:=fun _ _ h=>h
 bnd:=fun h=>h
def SlV {α:Type} (r:Sh α) (S:Nat→Prop) (w:World) (l:List α) (v:Value):Prop:=
 ∃A c,v=.slice A l.length c∧l.length≤c∧l.length≤140737488355328∧
  (0<l.length→∃b o,A=some ⟨b,o,none⟩∧S b∧b<w.heap.size∧∀i (h:i<l.length),∃cs,r.rd S w l[i] cs∧At w b (o+i*r.size) cs)
theorem SlV.mono {α:Type} {r:Sh α} {S S':Nat→Prop} {w w':World} {l:List α} {v:Value} (hs:∀b,S b→S' b) (hw:∀b,S b→w'.heap[b]?=w.heap[b]?) (h:SlV r S w l v):SlV r S' w' l v:=by
 obtain⟨A,c,rfl,hc,hm,hn⟩:=h;refine⟨A,c,rfl,hc,hm,fun h0=>?_⟩;obtain⟨b,o,rfl,hb,hlt,hi⟩:=hn h0;refine⟨b,o,rfl,hs b hb,?_,fun i h=>?_⟩
 ·have:=hw b hb
  rw [Array.getElem?_eq_getElem hlt] at this;exact(Array.getElem?_eq_some_iff.1 this).1
 ·obtain⟨cs,hr,ha⟩:=hi i h
  exact⟨cs,r.mono hs hw hr,ha.keep (hw b hb)⟩
theorem SlV.bnd {α:Type} {r:Sh α} {S:Nat→Prop} {w:World} {l:List α} {v:Value} (h:SlV r S w l v):SlV r (fun b=>S b∧b<w.heap.size) w l v:=by
 obtain⟨A,c,rfl,hc,hm,hn⟩:=h;refine⟨A,c,rfl,hc,hm,fun h0=>?_⟩;obtain⟨b,o,rfl,hb,hlt,hi⟩:=hn h0;refine⟨b,o,rfl,⟨hb,hlt⟩,hlt,fun i h=>?_⟩;obtain⟨cs,hr,ha⟩:=hi i h;exact⟨cs,r.bnd hr,ha⟩
def Sh.slice {α:Type} (r:Sh α):Sh (List α) where
 size:=1
 bytes:=24
 bd:=fun l=>l.length*r.bytes≤140737488351232∧∀a∈l,r.bd a
 rd:=fun S w l cs=>∃v,cs=[v]∧SlV r S w l v
 len:=by rintro _ _ _ _ ⟨v,rfl,_⟩;rfl
 one:=by rintro _ _ _ _ ⟨v,rfl,A,c,rfl,_⟩ u hu;simp at hu;subst hu;rfl
 mono:=by rintro S S' w w' l _ hs hw ⟨v,rfl,h⟩;exact⟨v,rfl,h.mono hs hw⟩
 bnd:=by rintro S w l _ ⟨v,rfl,h⟩;exact⟨v,rfl,h.bnd⟩
theorem SlV.nil {α:Type} (r:Sh α) (S:Nat→Prop) (w:World):SlV r S w [] (.slice none 0 0):=⟨none,0,rfl,Nat.le_refl _,by simp,fun h=>by simp at h⟩
theorem SlV.shape {α:Type} {r:Sh α} {S:Nat→Prop} {w:World} {l:List α} {v:Value} (h:SlV r S w l v):∃A c,v=.slice A l.length c∧l.length≤c∧l.length≤140737488355328:=by
 obtain⟨A,c,h1,h2,h3,_⟩:=h;exact⟨A,c,h1,h2,h3⟩
theorem SlV.at_ {α:Type} {r:Sh α} {S:Nat→Prop} {w:World} {l:List α} {A:Option Addr} {n c:Nat} (h:SlV r S w l (.slice A n c)) {i:Nat} (hi:i<l.length):
  ∃b o cs,A=some ⟨b,o,none⟩∧S b∧b<w.heap.size∧r.rd S w l[i] cs∧At w b (o+i*r.size) cs:=by
 obtain⟨A',c',h1,h2,h3,h4⟩:=h;injection h1 with e1 e2 e3
 subst e1;obtain⟨b,o,rfl,hb,hlt,hx⟩:=h4 ω;obtain⟨cs,hr,ha⟩:=hx i hi;exact⟨b,o,cs,rfl,hb,hlt,hr,ha⟩
theorem At.c0 {w:World} {b o:Nat} {u:Value} {l:List Value} (h:At w b o (u::l)):w.cell? ⟨b,o,none⟩=some u:=h 0 u rfl
structure BW (W:World) where
 w:World
 h:Below W.heap.size W w
instance (W:World):Inhabited (BW W):=⟨⟨W,Below.refl _ _⟩⟩
def old (W:World):Nat→Prop:=fun b=>b<W.heap.size
theorem ymc {n:Int} (h0:0≤n) (h1:n≤255):jE .u8 n:=by constructor<;>simp [IntKind.min,IntKind.max,IntKind.signed,IntKind.bits]<;>omega
theorem xl7 {n:Int} (h0:-9223372036854775808≤n) (h1:n≤9223372036854775807):jE .i64 n:=by constructor<;>simp [IntKind.min,IntKind.max,IntKind.signed,IntKind.bits]<;>omega
end Rdn
namespace Rdn
open Go Go.RowKit
structure Keep (S:Nat→Prop) (w w':World):Prop where
 os:w'.os=w.os
 tape:w'.tape=w.tape
 output:w'.output=w.output
 size:w.heap.size≤w'.heap.size
 block:∀k,k<w.heap.size→¬S k→w'.heap[k]?=w.heap[k]?
theorem Keep.refl (S:Nat→Prop) (w:World):Keep S w w:=⟨rfl,rfl,rfl,Nat.le_refl _,fun _ _ _=>rfl⟩
theorem Keep.trans {S:Nat→Prop} {a b c:World} (h:Keep S a b) (k:Keep S b c):Keep S a c:=
 ⟨k.os.trans h.os,k.tape.trans h.tape,k.output.trans h.output,Nat.le_trans h.size k.size,fun i hi hs=>(k.block i (Nat.lt_of_lt_of_le hi h.size) hs).trans (h.block i hi hs)⟩
theorem xcr {w:World} {b:Nat} {o:Obj} (h:w.heap[b]?=some o):b<w.heap.size:=(Array.getElem?_eq_some_iff.1 h).1
theorem xx1 (w:World) (o:Obj):(w.alloc o).heap[w.heap.size]?=some o:=heap_alloc_new w o
theorem Keep.mono {S S':Nat→Prop} {w w':World} (h:Keep S w w') (hs:∀b,b<w.heap.size→S b→S' b):Keep S' w w':=⟨h.os,h.tape,h.output,h.size,fun k hk hn=>h.block k hk (fun e=>hn (hs k hk e))⟩
theorem Keep.below {S:Nat→Prop} {w w':World} {B:Nat} (h:Keep S w w') (hs:∀b,b<w.heap.size→S b→B≤b) (hB:B≤w.heap.size):Below B w w':=
 ⟨h.os,h.tape,h.output,h.size,fun k hk=>h.block k ω (fun e=>by have:=hs k ω e;omega)⟩
theorem Keep.of_below {S:Nat→Prop} {w w':World} (h:Below w.heap.size w w'):Keep S w w':=⟨h.os,h.tape,h.output,h.size,fun k hk _=>h.block k hk⟩
theorem Keep.of_grown {S:Nat→Prop} {w w':World} {row:Option Nat} (h:w.grownBy w' row) (hs:∀g,row=some g→S g):Keep S w w':=
 ⟨h.os,h.tape,h.output,h.size,fun k hk hn=>h.block k hk (fun e=>hn (hs k e.symm))⟩
def Rows {α:Type} (r:Sh α) (Z:Nat→Prop) (w:World):List α→List Value→Prop
 |[],xs=>xs=[]
 |a::l,xs=>∃c ys,xs=c++ys∧r.rd Z w a c∧Rows r Z w l ys
section
variable {α:Type} {r:Sh α} {Z Z':Nat→Prop} {w w':World}
end
section
variable {α:Type} {r:Sh α} {Z Z':Nat→Prop} {base:Nat} {e:TypeId} {w w':World} {v:Value} {l:List α}
section
variable {P:Program} {ops:Array Oper} {rest:List Oper} {o:Oper} {a:Act} {Q:Exit→Act→World→Prop}
end
end
theorem xx8 {S:Nat→Prop} {k:IntKind} {w:World} {l:List Int} {A:Option Addr} {n c:Nat} (h:SlV (Sh.int k) S w l (.slice A n c)) {i:Nat} (hi:i<l.length):
  ∃b o,A=some ⟨b,o,none⟩∧S b∧b<w.heap.size∧w.cell? ⟨b,o+i,none⟩=some (.int k l[i])∧jE k l[i]:=by
 obtain⟨b,o,cs,hA,hS,hlt,hr,ha⟩:=h.at_ hi;obtain⟨rfl,h1⟩:=hr;refine⟨b,o,hA,hS,hlt,?_,h1⟩;have:=ha.c0;simpa [Sh.int] using this
end Rdn
namespace Rdn
open Go Go.RowKit
section rel
variable (P:Program) (ops:Array Oper) (C:World→Prop) (T:World→World→Prop) (R:List Nat) (Sh:Nat→Value→Prop) (V:Nat→World→Value→Prop) (B:List (List Nat))
def xmt (w:World) (v:Value):Result Next→Prop
 | .ok (.value u) w'=>w'=w∧u=v
 | .ok .skip w'=>w'=w∧v=undef
 |_=>False
def xb8 (o:Oper) (a:Act) (w:World) (v:Value):Prop:=xmt w v ((execOp a.eval o).run P w)
def xfh (S:Value→World→Prop):Result Next→Prop
 | .ok (.value u) w'=>S u w'
 | .ok .skip w'=>S undef w'
 | .ok (.enter f args) w'=>Calls P f args w' fun e w''=>∃u,e=.returned u∧S u w''
 |_=>False
def pO (o:Oper) (a:Act) (w:World) (S:Value→World→Prop):Prop:=xfh P S ((execOp a.eval o).run P w)
def bk (k:Nat):List Nat:=B.getD k []
def oL (k:Nat):Option Tmp:=(ops[k]?).bind (·.dst)
def xed:Bool:=
 Region.noSelect ops && (List.range ops.size).all fun k=>
  match ops[k]? with
  |none=>false
  |some o=>
   ((bk B k).all fun m=>o.after.any fun e=>Region.binds .any e && (e.on==m||(bk B e.on).contains m)) &&
   (o.after.all fun e=>!Region.binds .any e||decide (e.on<k)) &&
   ((List.range ops.size).all fun m=>match oL ops m with
    |none=>true
    |some d=>(m==k||oL ops k !=some d) && (!(o.looksAt ops).contains d||m==k||(decide (m<k) && (bk B k).contains m)||(decide (k<m) && (bk B m).contains k)))
def fr (a0:Act) (val:Nat→Value):Nat→Act
 |0=>a0
 |k+1=>(fr a0 val k).put (oL ops k) (val k)
end rel
def upd (v:Nat→Value) (k:Nat) (u:Value):Nat→Value:=fun i=>if i=k then u else v i
theorem xnq (v:Nat→Value) (k:Nat) (u:Value):upd v k u k=u:=by simp [upd]
theorem xfv (v:Nat→Value) {k i:Nat} (u:Value) (h:i≠k):upd v k u i=v i:=by simp [upd,h]
theorem xjm (a:Act) (dst:Option Tmp) (v:Value) (t:Nat):(a.put dst v).tmps[t]?=if dst=some t∧t<a.tmps.size then some v else a.tmps[t]?:=by
 cases dst with
 |none=>simp [Act.put]
 |some d=>
  simp only [Act.put,Option.some.injEq];rw [Array.getElem?_setIfInBounds];by_cases h:d=t
  ·subst h
   by_cases h2:d<a.tmps.size
   ·simp [h2]
   ·simp [h2]
  ·simp [h]
theorem ycb (a:Act) (dst:Option Tmp) (v:Value):(a.put dst v).tmps.size=a.tmps.size:=by cases dst<;>simp [Act.put]
theorem yc9 (a:Act) (dst:Option Tmp) (v:Value):(a.put dst v).defers=a.defers:=by cases dst<;>rfl
section
variable {P:Program} {ops:Array Oper} {C:World→Prop} {T:World→World→Prop} {R:List Nat} {Sh:Nat→Value→Prop} {V:Nat→World→Value→Prop} {B:List (List Nat)} {a0:Act}
theorem xpn (val:Nat→Value):∀k,(fr ops a0 val k).tmps.size=a0.tmps.size
 |0=>rfl
 |k+1=>by rw [fr,ycb,xpn val k]
theorem xwn (val:Nat→Value):∀k,(fr ops a0 val k).defers=a0.defers
 |0=>rfl
 |k+1=>by rw [fr,yc9,xwn val k]
theorem zZ {val:Nat→Value} {t:Nat}:∀{k},(∀m,m<k→oL ops m≠some t)→(fr ops a0 val k).tmps[t]?=a0.tmps[t]?
 |0,_=>rfl
 |k+1,h=>by
  rw [fr,xjm,if_neg (fun e=>h k ω e.1)];exact zZ fun m hm=>h m ω
theorem xij {val:Nat→Value} {t m:Nat} (hm:oL ops m=some t) (hu:∀j,oL ops j=some t→j=m):∀{k},m<k→(fr ops a0 val k).tmps[t]?=if t<a0.tmps.size then some (val m) else none
 |0,h=>by omega
 |k+1,h=>by
  rw [fr,xjm,xpn];by_cases he:oL ops k=some t
  ·have:=hu k he
   subst this;by_cases hs:t<a0.tmps.size
   ·simp [he,hs]
   ·simp only [he,hs,and_false,if_false]
    rw [zZ (fun j hj e=>by have:=hu j e;omega)];exact Array.getElem?_eq_none (Nat.le_of_not_lt hs)
  ·rw [if_neg (fun e=>he e.1)]
   have:m≠k:=fun e=>he (e▸hm);exact xij hm hu ω
theorem xik {val val':Nat→Value}:∀{k},(∀m,m<k→val m=val' m)→fr ops a0 val k=fr ops a0 val' k
 |0,_=>rfl
 |k+1,h=>by rw [fr,fr,xik (fun m hm=>h m ω),h k ω]
theorem yd4 {o:Oper} {a b:Act} (hs:∀cs bl,o.op≠.select cs bl) (h:∀t∈o.looksAt ops,a.tmps[t]?=b.tmps[t]?):
  execOp a.eval o=execOp b.eval o∧Region.wanted o (yielded ops a.tmps)=Region.wanted o (yielded ops b.tmps):=by
 constructor
 ·refine execOp_congr o hs fun x hx=>?_
  cases x with
  |tmp t=>
   have ht:t∈o.looksAt ops:=List.mem_append_left _ (List.mem_filterMap.2 ⟨.tmp t,by simpa using hx,rfl⟩);have:=h t ht;simp only [Act.eval,Array.getD_eq_getD_getElem?,this]
  |_=>rfl
 ·unfold Region.wanted
  cases hg:o.guard with
  |none=>rfl
  |some p=>
   obtain⟨g,want⟩:=p;simp only []
   congr 1
   unfold yielded;cases hd:(ops[g]?).bind (·.dst) with
   |none=>simp
   |some d=>
    have:d∈o.looksAt ops:=List.mem_append_right _ (by simp [hg,hd]);simp only [Option.bind_some,h d this]
theorem xi2 {m d:Nat} (h:oL ops m=some d):m<ops.size:=by
 unfold oL at h;cases ho:ops[m]? with
 |none=>simp [ho] at h
 |some o=>exact(Array.getElem?_eq_some_iff.1 ho).1
structure Good (ops:Array Oper) (B:List (List Nat)):Prop where
 sel:Region.noSelect ops=true
 pre:∀(k:Nat) (o:Oper),ops[k]?=some o→∀m∈bk B k,∃e∈o.after,Region.binds .any e=true∧(e.on=m∨m∈bk B e.on)
 low:∀(k:Nat) (o:Oper),ops[k]?=some o→∀e∈o.after,Region.binds .any e=true→e.on<k
 one:∀(k m d:Nat),k<ops.size→oL ops m=some d→oL ops k=some d→m=k
 look:∀(k:Nat) (o:Oper),ops[k]?=some o→∀m d,oL ops m=some d→d∈o.looksAt ops→m=k∨(m<k∧m∈bk B k)∨(k<m∧k∈bk B m)
theorem yly (h:xed ops B=true):Good ops B:=by
 unfold xed at h;rw [Bool.and_eq_true,List.all_eq_true] at h;obtain⟨hs,h⟩:=h;have key:∀(k:Nat) (o:Oper),ops[k]?=some o→
   ((bk B k).all fun m=>o.after.any fun e=>Region.binds .any e && (e.on==m||(bk B e.on).contains m))=true∧
   (o.after.all fun e=>!Region.binds .any e||decide (e.on<k))=true∧
   ((List.range ops.size).all fun m=>match oL ops m with
    |none=>true
    |some d=>(m==k||oL ops k !=some d) && (!(o.looksAt ops).contains d||m==k||(decide (m<k) && (bk B k).contains m)||(decide (k<m) && (bk B m).contains k)))=true:=by
  intro k o ho;have hk:k<ops.size:=(Array.getElem?_eq_some_iff.1 ho).1;have:=h k (List.mem_range.2 hk);rw [ho] at this;simp only [Bool.and_eq_true] at this;exact⟨this.1.1,this.1.2,this.2⟩
 refine⟨hs,?_,?_,?_,?_⟩
 ·intro k o ho m hm
  have h1:=List.all_eq_true.1 (key k o ho).1 m hm;obtain⟨e,he,hb⟩:=Array.any_eq_true'.1 h1;rw [Bool.and_eq_true,Bool.or_eq_true] at hb;exact⟨e,he,hb.1,hb.2.imp (fun x=>by simpa using x) (fun x=>by simpa using x)⟩
 ·intro k o ho e he hb
  have h1:=Array.all_eq_true'.1 (key k o ho).2.1 e he;rw [hb] at h1;simpa using h1
 ·intro k m d hk hm hd
  have ho:=Array.getElem?_eq_getElem hk;have h1:=List.all_eq_true.1 (key k _ ho).2.2 m (List.mem_range.2 (xi2 hm));rw [hm] at h1;simp only [Bool.and_eq_true,Bool.or_eq_true,hd] at h1;rcases h1.1 with e|e
  ·simpa using e
  ·simp at e
 ·intro k o ho m d hm hl
  have h1:=List.all_eq_true.1 (key k o ho).2.2 m (List.mem_range.2 (xi2 hm));rw [hm] at h1;simp only [Bool.and_eq_true,Bool.or_eq_true] at h1;have hc:(o.looksAt ops).contains d=true:=by simpa using hl
  rw [hc] at h1;rcases h1.2 with ((e|e)|e)|e
  ·simp at e
  ·exact .inl (by simpa using e)
  ·exact .inr (.inl (by simpa using e))
  ·exact .inr (.inr (by simpa using e))
theorem Good.nosel (g:Good ops B) {k:Nat} {o:Oper} (ho:ops[k]?=some o):∀cs bl,o.op≠.select cs bl:=fun cs bl=>Region.noSelect_spec g.sel k o cs bl ho
theorem Good.uniq (g:Good ops B) {m t:Nat} (hm:oL ops m=some t):∀j,oL ops j=some t→j=m:=fun j hj=>g.one m j t (xi2 hm) hj hm
theorem Good.agree (g:Good ops B) {k:Nat} {o:Oper} (ho:ops[k]?=some o) {val val':Nat→Value} (h:∀m∈bk B k,val m=val' m):
  ∀t∈o.looksAt ops,(fr ops a0 val k).tmps[t]?=(fr ops a0 val' k).tmps[t]?:=by
 intro t ht;by_cases hw:∃m,oL ops m=some t
 ·obtain⟨m,hm⟩:=hw
  rcases g.look k o ho m t hm ht with rfl|⟨hlt,hb⟩|⟨hlt,_⟩
  ·rw [zZ (fun j hj e=>by have:=g.uniq hm j e;omega),zZ (fun j hj e=>by have:=g.uniq hm j e;omega)]
  ·rw [xij hm (g.uniq hm) hlt,xij hm (g.uniq hm) hlt,h m hb]
  ·rw [zZ (fun j hj e=>by have:=g.uniq hm j e;omega),zZ (fun j hj e=>by have:=g.uniq hm j e;omega)]
 ·rw [zZ (fun j _ e=>hw ⟨j,e⟩),zZ (fun j _ e=>hw ⟨j,e⟩)]
theorem Good.alike (g:Good ops B) {k:Nat} {o:Oper} (ho:ops[k]?=some o) {val val':Nat→Value} (h:∀m∈bk B k,val m=val' m):
  execOp (fr ops a0 val k).eval o=execOp (fr ops a0 val' k).eval o∧Region.wanted o (yielded ops (fr ops a0 val k).tmps)=Region.wanted o (yielded ops (fr ops a0 val' k).tmps):=
 yd4 (g.nosel ho) (g.agree ho h)
theorem yro {o:Oper} {a:Act} {w:World} {u v:Value} (h1:xb8 P o a w u) (h2:xb8 P o a w v):u=v:=by
 unfold xb8 at *;cases hr:(execOp a.eval o).run P w with
 |ok n w'=>
  rw [hr] at h1 h2;cases n<;>simp only [xmt] at h1 h2
  ·exact h1.2.symm.trans h2.2
  ·exact h1.2.trans h2.2.symm
 |halt x w'=>rw [hr] at h1;exact h1.elim
theorem yfq {a b:Act} (h1:a.tmps.size=b.tmps.size) (h2:a.defers=b.defers) (h3:∀t:Nat,a.tmps[t]?=b.tmps[t]?):a=b:=by
 obtain⟨x,d⟩:=a;obtain⟨y,e⟩:=b;simp only at h1 h2 h3;subst h2
 congr 1
 exact Array.ext_getElem? h3
theorem yci (g:Good ops B) {listed:Array Bool} (hr:Region.ready .any ops listed=[]) (hs:listed.size=ops.size):∀n i,i<n→i<ops.size→listed.getD i false=true
 |0,i,h,_=>by omega
 |n+1,i,h,hi=>by
  have hno:i∉Region.ready .any ops listed:=by rw [hr];simp
  rw [mem_ready] at hno;have ho:=Array.getElem?_eq_getElem hi;cases hl:listed.getD i true with
  |true=>simpa [Array.getD_eq_getD_getElem?,Array.getElem?_eq_getElem (show i<listed.size by omega)] using hl
  |false=>
   exact absurd ⟨hl,_,ho,fun e he hb=>yci g hr hs n e.on (by have:=g.low i _ ho e he hb;omega) (by have:=g.low i _ ho e he hb;omega)⟩ hno
def left (ops:Array Oper) (listed:Array Bool):Nat→Nat
 |0=>0
 |n+1=>left ops listed n+if listed.getD n false then 0 else 1
theorem xxm (listed:Array Bool) {k:Nat} (hk:k<listed.size) (hl:listed.getD k false=false):∀n,left ops (listed.setIfInBounds k true) n+(if k<n then 1 else 0)=left ops listed n
 |0=>by simp [left]
 |n+1=>by
  have ih:=xxm listed hk hl n;unfold left;by_cases h:k=n
  ·subst h
   have e:(listed.setIfInBounds k true).getD k false=true:=by simp [hk]
   rw [e,hl];simp at ih⊢;omega
  ·rw [getD_set_ne false h]
   by_cases h2:k<n
   ·have h3:k<n+1:=ω
    simp only [h2,h3,if_true] at ih⊢;omega
   ·have h3:¬k<n+1:=ω
    simp only [h2,h3,if_false] at ih⊢;omega
theorem xxn {listed:Array Bool}:∀{n},left ops listed n=0→∀i,i<n→listed.getD i false=true
 |n+1,h,i,hi=>by
  unfold left at h;by_cases he:i=n
  ·subst he
   cases hl:listed.getD i false with
   |true=>rfl
   |false=>rw [hl] at h;simp at h
  ·exact xxn (n:=n) ω i ω
end
def xhd (ops:Array Oper):List (List Nat):=
 let b:=Region.before ops
 (List.range ops.size).map fun k=>(List.range k).filter fun m=>(b.getD k 0).testBit m
def xtg (B:List (List Nat)) (i:Nat) (F:List (Nat×(World→Prop))) (w:World):Prop:=∀x∈F,x.1∈bk B i→x.2 w
attribute [go_sem] xb8 xmt pO xfh
end Rdn
namespace Rdn
open Go Go.RowKit
theorem yd5 {P:Program} (w:World) (t ty e:TypeId) (i:TypeInfo) (ht:P.underlying t=some (.slice e)) (hi:P.info? e=some i) (A A':Option Addr) (n c c':Nat) (hn:n≤c):
  (Builtin.append_ #[t,t] ty #[.slice A n c,.slice A' 0 c']).run P w=.ok (.slice A n c) w:=by
 cases A<;>cases A'<;>simp [Builtin.append_,run_underlying ht,Go.sizeOf,typeInfo,hi,Builtin.lenOf,Builtin.firstCells,loadCells,loadCellsFrom,storeCells,hn]
section
variable {α:Type} {r:Sh α} {S Z Z':Nat→Prop} {base:Nat} {e:TypeId} {w w':World} {v:Value} {l:List α}
variable {P:Program} {ops:Array Oper} {rest:List Oper} {o:Oper} {a:Act} {Q:Exit→Act→World→Prop}
end
end Rdn
namespace Rdn.Gho
open Go Go.RowKit Rdn
structure CG (C:(Nat→Option Value)→World→Prop) where
 g:Nat→Option Value
 w:World
 h:C g w
section rel
variable (P:Program) (ops:Array Oper) (C:(Nat→Option Value)→World→Prop) (R:List Nat) (Sh:Nat→Value→Prop) (B:List (List Nat))
def upo (g:Nat→Option Value) (k:Nat) (u:Value):Nat→Option Value:=fun i=>if i=k then some u else g i
theorem upo_same (g:Nat→Option Value) (k:Nat) (u:Value):upo g k u k=some u:=by simp [upo]
theorem upo_ne (g:Nat→Option Value) {k i:Nat} (u:Value) (h:i≠k):upo g k u i=g i:=by simp [upo,h]
def relWalk (Q:Act→World→Prop):List Oper→Nat→List (Nat×Value)→Act→Prop
 |[],_,F,a=>∀g w,C g w→(∀x∈F,g x.1=some x.2)→Q a w
 |o::l,i,F,a=>
  if Region.wanted o (yielded ops a.tmps) then
   if R.contains i then
    (∃u,Sh i u)∧(∀g w,C g w→g i=none→(∀x∈F,x.1∈bk B i→g x.1=some x.2)→pO P o a w (fun u w'=>C (upo g i u) w'∧Sh i u))∧
     ∀u,Sh i u→relWalk Q l (i+1) ((i,u)::F) (a.put o.dst u)
   else ∃v,(∀w,(∃p:CG C,w=p.w)→xb8 P o a w v)∧relWalk Q l (i+1) F (a.put o.dst v)
  else relWalk Q l (i+1) F (a.put o.dst undef)
def ff (a0:Act) (val:Nat→Value):Nat→List (Nat×Value)
 |0=>[]
 |k+1=>if((ops[k]?).map fun o=>Region.wanted o (yielded ops (fr ops a0 val k).tmps) && R.contains k).getD false then(k,val k)::ff a0 val k else ff a0 val k
def at_ (a0:Act) (val:Nat→Value) (k:Nat):Prop:=
 ∀o,ops[k]?=some o→
  if Region.wanted o (yielded ops (fr ops a0 val k).tmps) then(if R.contains k then Sh k (val k) else ∀w,(∃p:CG C,w=p.w)→xb8 P o (fr ops a0 val k) w (val k)) else val k=undef
end rel
section
variable {P:Program} {ops:Array Oper} {C:(Nat→Option Value)→World→Prop} {R:List Nat} {Sh:Nat→Value→Prop} {B:List (List Nat)} {a0:Act}
theorem yg5 {val val':Nat→Value} {k:Nat} (h:∀m,m≤k→val m=val' m) (ha:at_ P ops C R Sh a0 val k):at_ P ops C R Sh a0 val' k:=by
 intro o ho;have:=ha o ho;rw [xik (fun m hm=>h m ω),h k (Nat.le_refl _)] at this;exact this
theorem xm8 {val:Nat→Value}:∀{k} {x},x∈ff ops R a0 val k→∃j,j<k∧x=(j,val j)∧R.contains j=true∧∃o,ops[j]?=some o∧Region.wanted o (yielded ops (fr ops a0 val j).tmps)=true
 |0,x,h=>by cases h
 |k+1,x,h=>by
  unfold ff at h;split at h
  ·rename_i hc
   rcases List.mem_cons.1 h with rfl|h
   ·cases ho:ops[k]? with
    |none=>simp [ho] at hc
    |some o=>
     simp only [ho,Option.map_some,Option.getD_some,Bool.and_eq_true] at hc;exact⟨k,ω,rfl,hc.2,o,ho,hc.1⟩
   ·obtain⟨j,hj,r⟩:=xm8 h
    exact⟨j,ω,r⟩
  ·obtain⟨j,hj,r⟩:=xm8 h
   exact⟨j,ω,r⟩
theorem xtv (g:Good ops B) {val val':Nat→Value} {k:Nat} (h:∀m∈bk B k,val m=val' m) (hk:val k=val' k) (ha:at_ P ops C R Sh a0 val k):at_ P ops C R Sh a0 val' k:=by
 intro o ho;have h1:=ha o ho;obtain⟨e1,e2⟩:=g.alike (a0:=a0) ho h;unfold xb8 at *;rw [e1,e2,hk] at h1;exact h1
theorem xkd {Q:Act→World→Prop} {g0:Nat→Option Value} {w0:World} (hw0:C g0 w0) (start:relWalk P ops C R Sh B Q ops.toList 0 [] a0) (val:Nat→Value):
  ∀k,k≤ops.size→(∀i,i<k→at_ P ops C R Sh a0 val i)→relWalk P ops C R Sh B Q (ops.toList.drop k) k (ff ops R a0 val k) (fr ops a0 val k)
 |0,_,_=>start
 |k+1,hk,ha=>by
  have ih:=xkd hw0 start val k ω (fun i hi=>ha i ω);have hlt:k<ops.toList.length:=by simp;omega
  rw [List.drop_eq_getElem_cons hlt] at ih;have ho:ops[k]?=some ops.toList[k]:=by rw [←Array.getElem?_toList];exact List.getElem?_eq_getElem hlt
  have hat:=ha k ω _ ho;have hd:oL ops k=(ops.toList[k]).dst:=by simp [oL,ho]
  unfold relWalk at ih;rw [ff,fr,hd];simp only [ho,Option.map_some,Option.getD_some];by_cases hwt:Region.wanted ops.toList[k] (yielded ops (fr ops a0 val k).tmps)=true
  ·rw [if_pos hwt] at ih hat
   by_cases hR:R.contains k=true
   ·rw [if_pos hR] at ih hat
    rw [if_pos (by rw [hwt,hR];rfl)];exact ih.2.2 _ hat
   ·rw [if_neg hR] at ih hat
    rw [if_neg (by rw [hwt];simpa using hR)];obtain⟨v,hv,hr⟩:=ih;rw [←yro (hv w0 ⟨⟨g0,w0,hw0⟩,rfl⟩) (hat w0 ⟨⟨g0,w0,hw0⟩,rfl⟩)];exact hr
  ·rw [if_neg hwt] at ih hat
   rw [if_neg (fun e=>hwt (by rw [Bool.and_eq_true] at e;exact e.1)),hat];exact ih
theorem xwe (g:Good ops B) {Q:Act→World→Prop} {g0:Nat→Option Value} {w0:World} (hw0:C g0 w0) (start:relWalk P ops C R Sh B Q ops.toList 0 [] a0) (L:Nat→Prop) (val:Nat→Value)
  (hcl:∀i,L i→∀m∈bk B i,L m) (hat:∀i,L i→at_ P ops C R Sh a0 val i):
  ∀k,k≤ops.size→∃val',(∀i,L i→val i=val' i)∧∀i,i<k→at_ P ops C R Sh a0 val' i
 |0,_=>⟨val,fun _ _=>rfl,fun i hi=>by omega⟩
 |k+1,hk=>by
  obtain⟨val',h1,h2⟩:=xwe g hw0 start L val hcl hat k ω;by_cases hL:L k
  ·refine⟨val',h1,fun i hi=>?_⟩
   by_cases hik:i=k
   ·subst hik
    exact xtv g (fun m hm=>h1 m (hcl _ hL m hm)) (h1 _ hL) (hat _ hL)
   ·exact h2 i ω
  ·have hc:=xkd hw0 start val' k ω h2
   have hlt:k<ops.toList.length:=by simp;omega
   rw [List.drop_eq_getElem_cons hlt] at hc;have ho:ops[k]?=some ops.toList[k]:=by rw [←Array.getElem?_toList];exact List.getElem?_eq_getElem hlt
   unfold relWalk at hc;obtain⟨u,hu⟩:∃u,if Region.wanted ops.toList[k] (yielded ops (fr ops a0 val' k).tmps) then(if R.contains k then Sh k u else ∀w,(∃p:CG C,w=p.w)→xb8 P ops.toList[k] (fr ops a0 val' k) w u) else u=undef:=by
    by_cases hwt:Region.wanted ops.toList[k] (yielded ops (fr ops a0 val' k).tmps)=true
    ·simp only [if_pos hwt] at hc⊢
     by_cases hR:R.contains k=true
     ·simp only [if_pos hR] at hc⊢;exact hc.1
     ·simp only [if_neg hR] at hc⊢;exact⟨hc.choose,hc.choose_spec.1⟩
    ·simp only [if_neg hwt];exact⟨undef,rfl⟩
   have hsame:∀m,m<k→val' m=upd val' k u m:=fun m hm=>(xfv val' u ω).symm;refine⟨upd val' k u,fun i hi=>?_,fun i hi=>?_⟩
   ·rw [xfv val' u (fun e=>by rw [e] at hi;exact hL hi)]
    exact h1 i hi
   ·by_cases hik:i=k
    ·subst hik
     intro o ho';rw [ho] at ho';obtain rfl:=Option.some.inj ho';rw [←xik hsame,xnq];exact hu
    ·exact yg5 (fun m hm=>hsame m ω) (h2 i ω)
structure St (P:Program) (ops:Array Oper) (C:(Nat→Option Value)→World→Prop) (R:List Nat) (Sh:Nat→Value→Prop) (B:List (List Nat)) (a0:Act) (L:Nat→Prop) (val:Nat→Value) (a:Act) (gh:Nat→Option Value) (w:World):Prop where
 c:C gh w
 no:∀i,¬L i→gh i=none
 lt:∀i,L i→i<ops.size
 closed:∀i,L i→∀m∈bk B i,L m
 is:∀i,L i→at_ P ops C R Sh a0 val i
 fact:∀i,L i→∀o,ops[i]?=some o→Region.wanted o (yielded ops (fr ops a0 val i).tmps)=true→R.contains i=true→gh i=some (val i)
 size:a.tmps.size=a0.tmps.size
 defers:a.defers=a0.defers
 new:∀i t,L i→oL ops i=some t→a.tmps[t]?=if t<a0.tmps.size then some (val i) else none
 old:∀t,(∀i,L i→oL ops i≠some t)→a.tmps[t]?=a0.tmps[t]?
theorem St.step (g:Good ops B) {Q:Act→World→Prop} (start:relWalk P ops C R Sh B Q ops.toList 0 [] a0)
  {L:Nat→Prop} {val:Nat→Value} {a:Act} {gh:Nat→Option Value} {w:World} (h:St P ops C R Sh B a0 L val a gh w) {k:Nat} {o:Oper} (ho:ops[k]?=some o) (hk:¬L k) (hb:∀m∈bk B k,L m)
  {Q':Exit→Act→World→Prop} {K:Act→World→Prop} (hK:∀val' a' gh' w',St P ops C R Sh B a0 (fun i=>L i∨i=k) val' a' gh' w'→K a' w'):wpOp P ops Q' k K a w:=by
 have hkn:k<ops.size:=(Array.getElem?_eq_some_iff.1 ho).1;obtain⟨v,hv1,hv2⟩:=xwe g h.c start L val h.closed h.is ops.size (Nat.le_refl _);have hc:=xkd h.c start v k ω (fun i hi=>hv2 i ω);have hlt:k<ops.toList.length:=by simp;omega
 rw [List.drop_eq_getElem_cons hlt] at hc;have ho':ops[k]?=some ops.toList[k]:=by rw [←Array.getElem?_toList];exact List.getElem?_eq_getElem hlt
 rw [ho] at ho';have hoe:=Option.some.inj ho';rw [←hoe] at hc;unfold relWalk at hc;have hagree:∀t∈o.looksAt ops,(fr ops a0 v k).tmps[t]?=a.tmps[t]?:=by
  intro t ht;by_cases hw:∃m,oL ops m=some t
  ·obtain⟨m,hm⟩:=hw
   have hold:¬L m→a.tmps[t]?=a0.tmps[t]?:=fun hn=>h.old t (fun i hi e=>hn (g.uniq hm i e▸hi));rcases g.look k o ho m t hm ht with rfl|⟨hlt2,hbm⟩|⟨hlt2,hbm⟩
   ·rw [zZ (fun j hj e=>by have:=g.uniq hm j e;omega),hold hk]
   ·rw [xij hm (g.uniq hm) hlt2,h.new m t (hb m hbm) hm,hv1 m (hb m hbm)]
   ·rw [zZ (fun j hj e=>by have:=g.uniq hm j e;omega),hold (fun hL=>hk (h.closed m hL k hbm))]
  ·rw [zZ (fun j _ e=>hw ⟨j,e⟩),h.old t (fun i _ e=>hw ⟨i,e⟩)]
 obtain⟨e1,e2⟩:=yd4 (g.nosel ho) hagree;have next:∀u gh' w',C gh' w'→(∀i,i≠k→gh' i=gh i)→(if Region.wanted o (yielded ops (fr ops a0 v k).tmps) then(if R.contains k then Sh k u∧gh' k=some u else ∀w,(∃p:CG C,w=p.w)→xb8 P o (fr ops a0 v k) w u) else u=undef)→
   St P ops C R Sh B a0 (fun i=>L i∨i=k) (upd v k u) (a.put o.dst u) gh' w':=by
  intro u gh' w' hC' hV' hu;have hsame:∀m,m<k→v m=upd v k u m:=fun m hm=>(xfv v u ω).symm;have hne:∀i,L i→i≠k:=fun i hi e=>hk (e▸hi);have hbk:∀i,L i→∀m∈bk B i,v m=upd v k u m:=fun i hi m hm=>(xfv v u (hne m (h.closed i hi m hm))).symm;have hvb:∀i,L i→∀m∈bk B i,val m=upd v k u m:=fun i hi m hm=>(hv1 m (h.closed i hi m hm)).trans (hbk i hi m hm);have hd:oL ops k=o.dst:=by simp [oL,ho]
  refine⟨hC',fun i hi=>(hV' i (fun e=>hi (.inr e))).trans (h.no i (fun e=>hi (.inl e))),?_,?_,?_,?_,?_,?_,?_,?_⟩
  ·rintro i (hi|rfl)
   ·exact h.lt i hi
   ·exact hkn
  ·rintro i (hi|rfl) m hm
   ·exact .inl (h.closed i hi m hm)
   ·exact .inl (hb m hm)
  ·rintro i (hi|rfl)
   ·exact xtv g (hvb i hi) (by rw [xfv v u (hne i hi)];exact hv1 i hi) (h.is i hi)
   ·intro o2 ho2
    rw [ho] at ho2;obtain rfl:=Option.some.inj ho2;rw [←xik hsame,xnq];split at hu
    ·rename_i hw
     rw [if_pos hw];split at hu
     ·rename_i hR;rw [if_pos hR];exact hu.1
     ·rename_i hR;rw [if_neg hR];exact hu
    ·rename_i hw
     rw [if_neg hw];exact hu
  ·rintro i (hi|rfl) o2 ho2 hw2 hR2
   ·rw [xfv v u (hne i hi),←hv1 i hi]
    refine(hV' _ (hne i hi)).trans (h.fact i hi o2 ho2 ?_ hR2);rw [(g.alike (a0:=a0) ho2 (hvb i hi)).2];exact hw2
   ·rw [ho] at ho2
    obtain rfl:=Option.some.inj ho2;rw [←xik hsame] at hw2;rw [if_pos hw2,if_pos hR2] at hu;rw [xnq];exact hu.2
  ·rw [ycb];exact h.size
  ·rw [yc9];exact h.defers
  ·rintro i t (hi|rfl) ht
   ·rw [xfv v u (hne i hi),xjm,if_neg (fun e=>hne i hi (g.one k i t hkn ht (hd▸e.1))),h.new i t hi ht,hv1 i hi]
   ·rw [xnq,xjm,h.size,←hd,ht]
    by_cases hs:t<a0.tmps.size
    ·simp [hs]
    ·rw [if_neg (fun e=>hs e.2),if_neg hs]
     exact Array.getElem?_eq_none (Nat.le_of_not_lt (fun x=>hs (h.size▸x)))
  ·intro t ht
   rw [xjm,if_neg (fun e=>ht k (.inr rfl) (hd▸e.1))];exact h.old t (fun i hi=>ht i (.inl hi))
 unfold wpOp;rw [ho];simp only [];rw [←e2];by_cases hwt:Region.wanted o (yielded ops (fr ops a0 v k).tmps)=true
 ·rw [if_pos hwt] at hc⊢
  simp only [if_pos hwt] at next;refine .inl ?_;unfold Oper.wp;rw [←e1];by_cases hR:R.contains k=true
  ·rw [if_pos hR] at hc
   simp only [if_pos hR] at next;have hfacts:∀x∈ff ops R a0 v k,x.1∈bk B k→gh x.1=some x.2:=by
    intro x hx hxb;obtain⟨j,hj,rfl,hRj,o2,ho2,hw2⟩:=xm8 hx;have hLj:=hb j hxb;have:=h.fact j hLj o2 ho2 (by rw [(g.alike (a0:=a0) ho2 (fun m hm=>hv1 m (h.closed j hLj m hm))).2];exact hw2) hRj;rw [hv1 j hLj] at this;exact this
   have hr:=hc.2.1 gh w h.c (h.no k hk) hfacts;unfold pO at hr;cases hrun:(execOp (fr ops a0 v k).eval o).run P w with
   |ok n w1=>
    rw [hrun] at hr;cases n<;>simp only [xfh] at hr<;>simp only [Oper.upon]
    case value u=>exact hK _ _ _ _ (next u _ w1 hr.1 (fun i hi=>upo_ne _ _ hi) ⟨hr.2,upo_same _ _ _⟩)
    case skip=>exact hK _ _ _ _ (next undef _ w1 hr.1 (fun i hi=>upo_ne _ _ hi) ⟨hr.2,upo_same _ _ _⟩)
    case enter f args=>
     refine hr.mono fun e w2 hh=>?_;obtain⟨u,rfl,h1,h2⟩:=hh;exact hK _ _ _ _ (next u _ w2 h1 (fun i hi=>upo_ne _ _ hi) ⟨h2,upo_same _ _ _⟩)
   |halt x w1=>rw [hrun] at hr;exact hr.elim
  ·rw [if_neg hR] at hc
   simp only [if_neg hR] at next;obtain⟨u,hu,_⟩:=hc;have hr:=hu w ⟨⟨gh,w,h.c⟩,rfl⟩;unfold xb8 at hr;cases hrun:(execOp (fr ops a0 v k).eval o).run P w with
   |ok n w1=>
    rw [hrun] at hr;cases n<;>simp only [xmt] at hr<;>simp only [Oper.upon]
    case value u'=>
     obtain⟨rfl,rfl⟩:=hr;exact hK _ _ _ _ (next _ _ _ h.c (fun _ _=>rfl) hu)
    case skip=>
     obtain⟨rfl,rfl⟩:=hr;exact hK _ _ _ _ (next _ _ _ h.c (fun _ _=>rfl) hu)
   |halt x w1=>rw [hrun] at hr;exact hr.elim
 ·rw [if_neg hwt]
  simp only [if_neg hwt] at next;exact hK _ _ _ _ (next undef _ w h.c (fun _ _=>rfl) rfl)
theorem St.all (g:Good ops B) {Q:Act→World→Prop} (start:relWalk P ops C R Sh B Q ops.toList 0 [] a0)
  {L:Nat→Prop} {val:Nat→Value} {a:Act} {gh:Nat→Option Value} {w:World} (h:St P ops C R Sh B a0 L val a gh w) (hall:∀i,i<ops.size→L i):Q a w:=by
 have hc:=xkd h.c start val ops.size (Nat.le_refl _) (fun i hi=>h.is i (hall i hi));rw [List.drop_of_length_le ξ] at hc;unfold relWalk at hc;have hq:=hc gh w h.c (fun x hx=>by
  obtain⟨j,hj,rfl,hRj,o2,ho2,hw2⟩:=xm8 hx;exact h.fact j (hall j hj) o2 ho2 hw2 hRj)
 have:fr ops a0 val ops.size=a:=yfq ((xpn val _).trans h.size.symm) ((xwn val _).trans h.defers.symm) fun t=>by
  by_cases hw:∃m,oL ops m=some t
  ·obtain⟨m,hm⟩:=hw
   rw [xij hm (g.uniq hm) (xi2 hm),h.new m t (hall m (xi2 hm)) hm]
  ·rw [zZ (fun j _ e=>hw ⟨j,e⟩),h.old t (fun i _ e=>hw ⟨i,e⟩)]
 rw [this] at hq;exact hq
theorem xtq (g:Good ops B) {Q:Act→World→Prop} (start:relWalk P ops C R Sh B Q ops.toList 0 [] a0)
  {Q':Exit→Act→World→Prop} (hQ:∀a w,Q a w→Q' .normal a w):
  ∀(fuel:Nat) (listed:Array Bool) (val:Nat→Value) (a:Act) (gh:Nat→Option Value) (w:World),listed.size=ops.size→left ops listed ops.size=fuel→
   St P ops C R Sh B a0 (fun i=>i<ops.size∧listed.getD i false=true) val a gh w→wpAny P .any ops Q' fuel listed a w
 |0,listed,val,a,gh,w,hs,hf,h=>by
  have hall:∀i,i<ops.size→listed.getD i false=true:=fun i hi=>xxn hf i hi;refine⟨?_,hQ _ _ (h.all g start fun i hi=>⟨hi,hall i hi⟩)⟩;cases hr:Region.ready .any ops listed with
  |nil=>rfl
  |cons j l=>
   have:j∈Region.ready .any ops listed:=by rw [hr];simp
   obtain⟨h1,o,ho,_⟩:=mem_ready.1 this;have hj:j<ops.size:=(Array.getElem?_eq_some_iff.1 ho).1;have h2:=hall j hj;simp [Array.getD_eq_getD_getElem?,Array.getElem?_eq_getElem (show j<listed.size by omega)] at h1 h2;rw [h2] at h1;cases h1
 |fuel+1,listed,val,a,gh,w,hs,hf,h=>by
  refine⟨fun hr=>hQ _ _ (h.all g start fun i hi=>⟨hi,yci g hr hs (i+1) i ω hi⟩),fun k hk=>?_⟩;obtain⟨h1,o,ho,hall⟩:=mem_ready.1 hk;have hkn:k<ops.size:=(Array.getElem?_eq_some_iff.1 ho).1;have hun:listed.getD k false=false:=by
   simp [Array.getD_eq_getD_getElem?,Array.getElem?_eq_getElem (show k<listed.size by omega)] at h1⊢;exact h1
  have hb:∀m∈bk B k,m<ops.size∧listed.getD m false=true:=by
   intro m hm;obtain⟨e,he,hbd,hx⟩:=g.pre k o ho m hm;have hl:=hall e he hbd;have hlt:=g.low k o ho e he hbd;rcases hx with rfl|hx
   ·exact⟨ω,hl⟩
   ·exact h.closed e.on ⟨ω,hl⟩ m hx
  refine h.step g start ho (fun e=>by rw [hun] at e;cases e.2) hb fun val' a' gh' w' h'=>?_;refine xtq g start hQ fuel _ val' a' gh' w' (by simpa using hs) ?_ ?_
  ·have:=xxm (ops:=ops) listed (show k<listed.size by omega) hun ops.size
   rw [if_pos hkn] at this;omega
  ·have e:(fun i=>i<ops.size∧(listed.setIfInBounds k true).getD i false=true)=(fun i=>(i<ops.size∧listed.getD i false=true)∨i=k):=by
    funext i;apply propext;by_cases hik:i=k
    ·subst hik
     simp [hkn,show i<listed.size by omega]
    ·rw [getD_set_ne false (Ne.symm hik)]
     simp [hik]
   rw [e];exact h'
theorem yxp {id:Nat} {Q:Exit→Act→World→Prop} {w:World} (hm:P.follows .mixedOrders=true) (hB:xed ops B=true)
  (hC:C (fun _=>none) {w with drawn:=w.drawn+1}) (h:relWalk P ops C R Sh B (fun a w=>Q .normal a w) ops.toList 0 [] a0):(Code.region id ops true).wp P Q a0 w:=by
 refine wp_region_any hm (xtq (yly hB) h (fun _ _ hq=>hq) ops.size _ (fun _=>undef) a0 (fun _=>none) _ ξ ?_ ?_)
 ·have:∀n,n≤ops.size→left ops (Array.replicate ops.size false) n=n:=by
   intro n
   induction n with
   |zero=>intro _;rfl
   |succ n ih=>intro hn;unfold left;rw [ih ω];simp [show n<ops.size by omega]
  exact this _ (Nat.le_refl _)
 ·have hno:∀i,¬(i<ops.size∧(Array.replicate ops.size false).getD i false=true):=by
   rintro i ⟨hi,hl⟩
   simp [hi] at hl
  exact⟨hC,fun _ _=>rfl,fun i hi=>(hno i hi).elim,fun i hi=>(hno i hi).elim,fun i hi=>(hno i hi).elim,fun i hi=>(hno i hi).elim,rfl,rfl,fun i t hi=>(hno i hi).elim,fun t _=>rfl⟩
theorem step {Q:Act→World→Prop} {o:Oper} {l:List Oper} {i:Nat} {F:List (Nat×Value)} {a:Act}
  (h:∀K:List (Nat×Value)→Act→Prop,(∀F a,relWalk P ops C R Sh B Q l (i+1) F a→K F a)→
   if Region.wanted o (yielded ops a.tmps) then
    if R.contains i then
     (∃u,Sh i u)∧(∀g w,C g w→g i=none→(∀x∈F,x.1∈bk B i→g x.1=some x.2)→pO P o a w (fun u w'=>C (upo g i u) w'∧Sh i u))∧
      ∀u,Sh i u→K ((i,u)::F) (a.put o.dst u)
    else ∃v,(∀w,(∃p:CG C,w=p.w)→xb8 P o a w v)∧K F (a.put o.dst v)
   else K F (a.put o.dst undef)):relWalk P ops C R Sh B Q (o::l) i F a:=by
 have:=h _ (fun _ _ h=>h);unfold relWalk;exact this
structure Post (C:(Nat→Option Value)→World→Prop) (Sh:Nat→Value→Prop) (i:Nat) (g:Nat→Option Value) (u:Value) (w':World):Prop where
 c:C (upo g i u) w'
 sh:Sh i u
def xtg (B:List (List Nat)) (i:Nat) (F:List (Nat×Value)) (g:Nat→Option Value):Prop:=∀x∈F,x.1∈bk B i→g x.1=some x.2
theorem rel {Q:Act→World→Prop} {o:Oper} {l:List Oper} {i:Nat} {F:List (Nat×Value)} {a:Act}
  (hw:Region.wanted o (yielded ops a.tmps)=true) (hR:R.contains i=true) (hne:∃u,Sh i u)
  (hop:∀g w,C g w→g i=none→xtg B i F g→pO P o a w (Post C Sh i g))
  (hk:∀u,Sh i u→relWalk P ops C R Sh B Q l (i+1) ((i,u)::F) (a.put o.dst u)):relWalk P ops C R Sh B Q (o::l) i F a:=by
 unfold relWalk;rw [if_pos hw,if_pos hR];refine⟨hne,?_,hk⟩;intro g w hC hn hF;have h:=hop g w hC hn hF;unfold pO at *;generalize (execOp a.eval o).run P w=r at *;cases r with
 |ok n w'=>
  cases n<;>simp only [xfh] at h⊢
  case value u=>exact⟨h.c,h.sh⟩
  case skip=>exact⟨h.c,h.sh⟩
  case enter f args=>exact h.mono fun e w'' ⟨u,he,hh⟩=>⟨u,he,hh.c,hh.sh⟩
 |halt x w'=>exact h.elim
theorem done {Q:Act→World→Prop} {i:Nat} {F:List (Nat×Value)} {a:Act}
  (h:∀g w,C g w→(∀(k:Nat) (j:Nat) (u:Value),F[k]?=some (j,u)→g j=some u)→Q a w):relWalk P ops C R Sh B Q [] i F a:=by
 intro g w hC hF;exact h g w hC fun k j u hk=>hF (j,u) (List.mem_of_getElem? hk)
theorem region {l:List Oper} {id:Nat} {Q:Exit→Act→World→Prop} {w:World} {a0:Act} (C:(Nat→Option Value)→World→Prop) (R:List Nat) (Sh:Nat→Value→Prop)
  (hm:P.follows .mixedOrders=true) (hB:xed l.toArray (xhd l.toArray)=true) (hC:C (fun _=>none) {w with drawn:=w.drawn+1})
  (h:∀C':(Nat→Option Value)→World→Prop,RowKit.Hid (C'=C)→Nonempty (CG C')→relWalk P l.toArray C' R Sh (xhd l.toArray) (fun a w=>Q .normal a w) l 0 [] a0):(Code.region id l.toArray true).wp P Q a0 w:=
 yxp hm hB hC (by simpa using h C (Lib.hid rfl) ⟨⟨_,_,hC⟩⟩)
end
end Rdn.Gho
namespace Rdn
open Go Go.RowKit
theorem yd9 {P:Program} {S:Nat→Prop} {w:World} {l:List Int} {v:Value} (src e dst:TypeId) (hs:P.underlying src=some (.slice e)) (he:P.underlying e=some (.int .u8)) (hd:P.underlying dst=some .string)
  (h:SlV (Sh.int .u8) S w l v):(convert src dst v).run P w=.ok (.string (strOfNums l)) w:=by
 obtain⟨A,c,rfl,hc,hm⟩:=h.shape;by_cases h0:0<l.length
 ·obtain⟨g,o,rfl,_,_,_,_⟩:=xx8 h h0
  refine run_convert_bytes_arg w src e hs he g o l.length c l rfl (fun i hi=>?_) dst hd;obtain⟨g',o',e1,_,_,hx,_⟩:=xx8 h hi;injection e1 with e1
  injection e1 with e1 e2
  subst e1 e2;rw [hx];simp [List.getD,List.getElem?_eq_getElem hi]
 ·have:l=[]:=List.eq_nil_of_length_eq_zero ω
  subst this;cases A with
  |none=>exact run_convert_bytes_nil w src e hs he _ _ dst hd
  |some a=>
   rw [run_convert_bytes_string w src dst e _ _ _ hs he hd];exact run_bytesToString w a 0 c [] (by simp [loadCells,loadCellsFrom])
end Rdn
namespace Rdn.Dp
open Go Go.RowKit Rdn
inductive CK where
 |fn (g:FuncId)
 |bm (g:FuncId)
 |mp (ents:List (Int×FuncId))
def CK.isF:CK→Bool
 | .fn _=>true
 |_=>false
def CK.ok (B:Nat→Prop) (w:World) (vs:List Value):CK→Value→Prop
 | .fn f,v=>v=.func (.func f) #[] vs.toArray
 | .bm f,v=>v=.func (.func f) vs.toArray #[]
 | .mp ents,v=>∃b es ck,v=.map (some b)∧B b∧w.heap[b]?=some (.map es ck)∧es.toList.map (·.key)=ents.map (fun x=> .int .i64 x.1)∧es.toList.map (·.val)=ents.map (fun x=> .func (.func x.2) vs.toArray #[])
theorem CK.ok.mono {B B':Nat→Prop} {w w':World} {vs:List Value} (hB:∀b,B b→B' b∧w'.heap[b]?=w.heap[b]?):∀{k:CK} {v:Value},k.ok B w vs v→k.ok B' w' vs v
 | .fn _,_,h=>h
 | .bm _,_,h=>h
 | .mp _,_,⟨b,es,ck,h1,h2,h3,h4⟩=>⟨b,es,ck,h1,(hB b h2).1,(hB b h2).2.trans h3,h4⟩
theorem CK.ok.isF {B B':Nat→Prop} {w w':World} {vs:List Value}:∀{k:CK} {v:Value},k.isF=true→k.ok B w vs v→k.ok B' w' vs v
 | .fn _,_,_,h=>h
 | .bm _,_,h,_=>by cases h
 | .mp _,_,h,_=>by cases h
inductive V where
 |int (k:IntKind) (n:Int)
 |bool (b:Bool)
 |str (s:ByteArray)
 |nilS
 |agg (l:List V)
 |arr (s:Nat) (l:List V)
 |sl (t:Bool) (s:Nat) (l:List V)
 |own (r g:Nat)
 |ptr (r g:Nat) (p:List Nat) (o:Nat)
 |osl (r g s a b:Nat)
 |rp (x:V)
 |tup (l:List V)
 |fn (f:FuncId)
 |lit (v:Value)
 |clo (f:CK) (l:List V)
 |junk
instance :Inhabited V:=⟨.junk⟩
mutual
def V.size:V→Nat
 | .agg l=>V.sizes l
 | .arr s l=>s*l.length
 | .tup _=>0
 | .clo _ _=>0
 | .junk=>0
 | .int _ _=>1
 | .bool _=>1
 | .str _=>1
 | .nilS=>1
 | .sl _ _ _=>1
 | .own _ _=>1
 | .ptr _ _ _ _=>1
 | .osl _ _ _ _ _=>1
 | .rp _=>1
 | .fn _=>1
 | .lit _=>1
def V.sizes:List V→Nat
 |[]=>0
 |x::l=>x.size+V.sizes l
end
mutual
def V.pure:V→Bool
 | .agg l=>V.pures l
 | .arr _ l=>V.pures l
 | .int _ _=>true
 | .bool _=>true
 | .str _=>true
 | .nilS=>true
 | .sl _ _ _=>true
 | .own _ _=>false
 | .ptr _ _ _ _=>false
 | .osl _ _ _ _ _=>false
 | .rp _=>false
 | .fn _=>false
 | .lit _=>false
 | .tup _=>false
 | .clo _ _=>false
 | .junk=>false
def V.pures:List V→Bool
 |[]=>true
 |x::l=>x.pure && V.pures l
end
mutual
def V.scp (m:Nat):V→Bool
 | .agg l=>V.scps m l
 | .arr _ l=>V.scps m l
 | .int _ _=>true
 | .bool _=>true
 | .str _=>true
 | .nilS=>true
 | .sl _ _ _=>true
 | .own r _=>decide (r<m)
 | .ptr r _ _ _=>decide (r<m)
 | .osl r _ _ _ _=>decide (r<m)
 | .rp x=>x.pure
 | .fn _=>true
 | .lit _=>true
 | .tup l=>V.scps m l
 | .clo _ l=>V.scps m l
 | .junk=>true
def V.scps (m:Nat):List V→Bool
 |[]=>true
 |x::l=>x.scp m && V.scps m l
end
def Unif (s:Nat) (l:List V):Prop:=∀x∈l,x.size=s
structure Env where
 B:Nat→Prop
 F:Nat→Prop
 ref:List (Nat×Value)
def aP:Value→Option Nat
 | .slice (some a) _ _=>some a.block
 | .pointer (some a)=>some a.block
 |_=>none
def xrs (s a b:Nat) (u v:Value):Prop:=∃A n c A',u=.slice A n c∧v=.slice A' (b-a) (c-a)∧a≤b∧b≤n∧n≤c∧(a<c→A'=A.map (·.add (a*s)))
mutual
def RdV (E:Env) (w:World):V→List Value→Prop
 | .int k n,cs=>cs=[.int k n]∧jE k n
 | .bool b,cs=>cs=[.bool b]
 | .str s,cs=>cs=[.string s]
 | .nilS,cs=>cs=[.slice none 0 0]
 | .agg l,cs=>RdL E w l cs
 | .arr s l,cs=>RdL E w l cs∧Unif s l
 | .sl t s l,cs=>V.pures l=true∧Unif s l∧∃A c,cs=[.slice A l.length c]∧l.length≤c∧l.length≤140737488355328∧
   (0<l.length→∃b o xs,A=some ⟨b,o,none⟩∧E.B b∧(t=true→E.F b)∧RdL E w l xs∧At w b o xs)
 | .own r g,cs=>∃v,cs=[v]∧v.oneCell'=true∧r<E.ref.length∧∀gc u,E.ref[r]?=some (gc,u)→g≤gc∧(g=gc→v=u)
 | .ptr r g _ o,cs=>∃v,cs=[v]∧v.oneCell'=true∧r<E.ref.length∧∀gc u,E.ref[r]?=some (gc,u)→g≤gc∧(g=gc→∃b,aP u=some b∧v=.pointer (some ⟨b,o,none⟩))
 | .osl r g s a b,cs=>∃v,cs=[v]∧v.oneCell'=true∧r<E.ref.length∧∀gc u,E.ref[r]?=some (gc,u)→g≤gc∧(g=gc→xrs s a b u v)
 | .rp x,cs=>x.pure=true∧∃b o xs,cs=[.pointer (some ⟨b,o,none⟩)]∧E.B b∧RdV E w x xs∧At w b o xs
 | .fn f,cs=>cs=[.func (.func f) #[] #[]]
 | .lit f,cs=>cs=[f]∧f.oneCell'=true
 | .tup _,_=>False
 | .clo _ _,_=>False
 | .junk,_=>False
def RdL (E:Env) (w:World):List V→List Value→Prop
 |[],xs=>xs=[]
 |a::l,xs=>∃c ys,xs=c++ys∧RdV E w a c∧RdL E w l ys
end
mutual
def RdT (E:Env) (w:World):V→Value→Prop
 | .agg l,v=>∃cs,v=.agg cs.toArray∧RdV E w (.agg l) cs
 | .arr s l,v=>∃cs,v=.agg cs.toArray∧RdV E w (.arr s l) cs
 | .tup l,v=>∃vs,v=.tuple vs.toArray∧RdTs E w l vs
 | .clo f l,v=>∃vs,f.ok E.B w vs v∧RdTs E w l vs
 | .junk,_=>True
 | .int k n,v=>RdV E w (.int k n) [v]
 | .bool b,v=>RdV E w (.bool b) [v]
 | .str s,v=>RdV E w (.str s) [v]
 | .nilS,v=>RdV E w .nilS [v]
 | .sl t s l,v=>RdV E w (.sl t s l) [v]
 | .own r g,v=>RdV E w (.own r g) [v]
 | .ptr r g p o,v=>RdV E w (.ptr r g p o) [v]
 | .osl r g s a b,v=>RdV E w (.osl r g s a b) [v]
 | .rp x,v=>RdV E w (.rp x) [v]
 | .fn f,v=>RdV E w (.fn f) [v]
 | .lit f,v=>RdV E w (.lit f) [v]
def RdTs (E:Env) (w:World):List V→List Value→Prop
 |[],vs=>vs=[]
 |a::l,vs=>∃v ys,vs=v::ys∧RdT E w a v∧RdTs E w l ys
end
theorem wP {s:Nat}:∀{l:List V},Unif s l→V.sizes l=s*l.length
 |[],_=>rfl
 |x::l,h=>by
  have ih:=wP (l:=l) (fun y hy=>h y (by simp [hy]));rw [V.sizes,ih,h x ξ,List.length_cons,Nat.mul_add];omega
theorem Unif.take {s:Nat} {l:List V} (h:Unif s l) (k:Nat):Unif s (l.take k):=fun x hx=>h x (List.mem_of_mem_take hx)
theorem Unif.drop {s:Nat} {l:List V} (h:Unif s l) (k:Nat):Unif s (l.drop k):=fun x hx=>h x (List.mem_of_mem_drop hx)
theorem Unif.app {s:Nat} {l m:List V} (h:Unif s l) (k:Unif s m):Unif s (l++m):=fun x hx=>(List.mem_append.1 hx).elim (h x) (k x)
theorem pures_iff:∀{l:List V},V.pures l=true↔∀x∈l,x.pure=true
 |[]=>by simp [V.pures]
 |x::l=>by simp [V.pures,pures_iff (l:=l)]
theorem yc3 {l m:List V} (h:V.pures l=true) (k:V.pures m=true):V.pures (l++m)=true:=
 pures_iff.2 fun x hx=>(List.mem_append.1 hx).elim (pures_iff.1 h x) (pures_iff.1 k x)
section
variable {E:Env} {w:World}
mutual
theorem RdV.len:∀{x:V} {cs:List Value},RdV E w x cs→cs.length=x.size
 | .int k n,cs,h=>by simp only [RdV] at h;simp [h.1,V.size]
 | .bool b,cs,h=>by simp only [RdV] at h;simp [h,V.size]
 | .str b,cs,h=>by simp only [RdV] at h;simp [h,V.size]
 | .nilS,cs,h=>by simp only [RdV] at h;simp [h,V.size]
 | .agg l,cs,h=>by simp only [RdV] at h;simp only [V.size];exact RdL.len h
 | .arr s l,cs,h=>by simp only [RdV] at h;simp only [V.size];rw [RdL.len h.1,wP h.2]
 | .sl t s l,cs,h=>by simp only [RdV] at h;obtain⟨_,_,A,c,rfl,_⟩:=h;simp [V.size]
 | .own r g,cs,h=>by simp only [RdV] at h;obtain⟨v,rfl,_⟩:=h;simp [V.size]
 | .ptr r g p o,cs,h=>by simp only [RdV] at h;obtain⟨v,rfl,_⟩:=h;simp [V.size]
 | .osl r g s a b,cs,h=>by simp only [RdV] at h;obtain⟨v,rfl,_⟩:=h;simp [V.size]
 | .rp x,cs,h=>by simp only [RdV] at h;obtain⟨_,b,o,xs,rfl,_⟩:=h;simp [V.size]
 | .fn f,cs,h=>by simp only [RdV] at h;simp [h,V.size]
 | .lit f,cs,h=>by simp only [RdV] at h;simp [h.1,V.size]
 | .tup l,cs,h=>by simp only [RdV] at h
 | .clo f l,cs,h=>by simp only [RdV] at h
 | .junk,cs,h=>by simp only [RdV] at h
theorem RdL.len:∀{l:List V} {cs:List Value},RdL E w l cs→cs.length=V.sizes l
 |[],xs,h=>by simp only [RdL] at h;simp [h,V.sizes]
 |a::l,xs,h=>by
  simp only [RdL] at h;obtain⟨c,ys,rfl,h1,h2⟩:=h;simp only [V.sizes,List.length_append,h1.len,h2.len]
end
mutual
theorem RdV.one:∀{x:V} {cs:List Value},RdV E w x cs→∀u∈cs,u.oneCell'=true
 | .int k n,cs,h=>by simp only [RdV] at h;simp [h.1,Value.oneCell']
 | .bool b,cs,h=>by simp only [RdV] at h;simp [h,Value.oneCell']
 | .str b,cs,h=>by simp only [RdV] at h;simp [h,Value.oneCell']
 | .nilS,cs,h=>by simp only [RdV] at h;simp [h,Value.oneCell']
 | .agg l,cs,h=>by simp only [RdV] at h;exact RdL.one h
 | .arr s l,cs,h=>by simp only [RdV] at h;exact RdL.one h.1
 | .sl t s l,cs,h=>by simp only [RdV] at h;obtain⟨_,_,A,c,rfl,_⟩:=h;simp [Value.oneCell']
 | .own r g,cs,h=>by simp only [RdV] at h;obtain⟨v,rfl,hv,_⟩:=h;simp [hv]
 | .ptr r g p o,cs,h=>by simp only [RdV] at h;obtain⟨v,rfl,hv,_⟩:=h;simp [hv]
 | .osl r g s a b,cs,h=>by simp only [RdV] at h;obtain⟨v,rfl,hv,_⟩:=h;simp [hv]
 | .rp x,cs,h=>by simp only [RdV] at h;obtain⟨_,b,o,xs,rfl,_⟩:=h;simp [Value.oneCell']
 | .fn f,cs,h=>by simp only [RdV] at h;simp [h,Value.oneCell']
 | .lit f,cs,h=>by simp only [RdV] at h;simp [h.1,h.2]
 | .tup l,cs,h=>by simp only [RdV] at h
 | .clo f l,cs,h=>by simp only [RdV] at h
 | .junk,cs,h=>by simp only [RdV] at h
theorem RdL.one:∀{l:List V} {cs:List Value},RdL E w l cs→∀u∈cs,u.oneCell'=true
 |[],xs,h=>by simp only [RdL] at h;simp [h]
 |a::l,xs,h=>by
  simp only [RdL] at h;obtain⟨c,ys,rfl,h1,h2⟩:=h;intro u hu;rcases List.mem_append.1 hu with hu|hu
  ·exact h1.one u hu
  ·exact h2.one u hu
end
end
structure Leads (E:Env) (w:World) (E':Env) (w':World):Prop where
 b:∀b,E.B b→E'.B b∧w'.heap[b]?=w.heap[b]?
 f:∀b,E.F b→E'.F b
 len:E.ref.length≤E'.ref.length
 ref:∀r g u,r<E.ref.length→E'.ref[r]?=some (g,u)→∃g0 u0,E.ref[r]?=some (g0,u0)∧g0≤g∧(g0=g→u0=u)
theorem Leads.refl (E:Env) (w:World):Leads E w E w:=⟨fun b h=>⟨h,rfl⟩,fun _ h=>h,Nat.le_refl _,fun _ g u _ h=>⟨g,u,h,Nat.le_refl _,fun _=>rfl⟩⟩
theorem Leads.trans {E E' E'':Env} {w w' w'':World} (h:Leads E w E' w') (k:Leads E' w' E'' w''):Leads E w E'' w'':=
 ⟨fun b hb=>⟨(k.b b (h.b b hb).1).1,((k.b b (h.b b hb).1).2).trans (h.b b hb).2⟩,fun b hb=>k.f b (h.f b hb),Nat.le_trans h.len k.len,fun r g u hr hu=>by
  obtain⟨g1,u1,h1,h2,h3⟩:=k.ref r g u (Nat.lt_of_lt_of_le hr h.len) hu;obtain⟨g0,u0,k1,k2,k3⟩:=h.ref r g1 u1 hr h1;refine⟨g0,u0,k1,Nat.le_trans k2 h2,fun e=>?_⟩;have e1:g0=g1:=ω;have e2:g1=g:=ω;exact(k3 e1).trans (h3 e2)⟩
section
variable {E E':Env} {w w':World}
mutual
theorem RdV.mono (L:Leads E w E' w'):∀{x:V} {cs:List Value},RdV E w x cs→RdV E' w' x cs
 | .int k n,cs,h=>by simp only [RdV] at h⊢;exact h
 | .bool b,cs,h=>by simp only [RdV] at h⊢;exact h
 | .str b,cs,h=>by simp only [RdV] at h⊢;exact h
 | .nilS,cs,h=>by simp only [RdV] at h⊢;exact h
 | .agg l,cs,h=>by simp only [RdV] at h⊢;exact h.mono L
 | .arr s l,cs,h=>by simp only [RdV] at h⊢;exact⟨h.1.mono L,h.2⟩
 | .sl t s l,cs,h=>by
  simp only [RdV] at h⊢;obtain⟨h1,h2,A,c,h3,h4,h5,h6⟩:=h;refine⟨h1,h2,A,c,h3,h4,h5,fun h0=>?_⟩;obtain⟨b,o,xs,hA,hb,hf,hr,ha⟩:=h6 h0;exact⟨b,o,xs,hA,(L.b b hb).1,fun ht=>L.f b (hf ht),hr.mono L,ha.keep (L.b b hb).2⟩
 | .own r g,cs,h=>by
  simp only [RdV] at h⊢;obtain⟨v,h1,h2,h3,h4⟩:=h;refine⟨v,h1,h2,Nat.lt_of_lt_of_le h3 L.len,fun gc u hu=>?_⟩;obtain⟨g0,u0,k1,k2,k3⟩:=L.ref r gc u h3 hu;obtain⟨m1,m2⟩:=h4 g0 u0 k1;refine⟨Nat.le_trans m1 k2,fun e=>?_⟩;have e1:g0=gc:=ω;obtain rfl:=k3 e1;exact m2 ω
 | .ptr r g p o,cs,h=>by
  simp only [RdV] at h⊢;obtain⟨v,h1,h2,h3,h4⟩:=h;refine⟨v,h1,h2,Nat.lt_of_lt_of_le h3 L.len,fun gc u hu=>?_⟩;obtain⟨g0,u0,k1,k2,k3⟩:=L.ref r gc u h3 hu;obtain⟨m1,m2⟩:=h4 g0 u0 k1;refine⟨Nat.le_trans m1 k2,fun e=>?_⟩;have e1:g0=gc:=ω;obtain rfl:=k3 e1;exact m2 ω
 | .osl r g s a b,cs,h=>by
  simp only [RdV] at h⊢;obtain⟨v,h1,h2,h3,h4⟩:=h;refine⟨v,h1,h2,Nat.lt_of_lt_of_le h3 L.len,fun gc u hu=>?_⟩;obtain⟨g0,u0,k1,k2,k3⟩:=L.ref r gc u h3 hu;obtain⟨m1,m2⟩:=h4 g0 u0 k1;refine⟨Nat.le_trans m1 k2,fun e=>?_⟩;have e1:g0=gc:=ω;obtain rfl:=k3 e1;exact m2 ω
 | .rp x,cs,h=>by
  simp only [RdV] at h⊢;obtain⟨h1,b,o,xs,h2,h3,h4,h5⟩:=h;exact⟨h1,b,o,xs,h2,(L.b b h3).1,h4.mono L,h5.keep (L.b b h3).2⟩
 | .fn f,cs,h=>by simp only [RdV] at h⊢;exact h
 | .lit f,cs,h=>by simp only [RdV] at h⊢;exact h
 | .tup l,cs,h=>by simp only [RdV] at h
 | .clo f l,cs,h=>by simp only [RdV] at h
 | .junk,cs,h=>by simp only [RdV] at h
theorem RdL.mono (L:Leads E w E' w'):∀{l:List V} {cs:List Value},RdL E w l cs→RdL E' w' l cs
 |[],xs,h=>by simp only [RdL] at h⊢;exact h
 |a::l,xs,h=>by
  simp only [RdL] at h⊢;obtain⟨c,ys,h1,h2,h3⟩:=h;exact⟨c,ys,h1,h2.mono L,h3.mono L⟩
end
mutual
theorem RdT.mono (L:Leads E w E' w'):∀{x:V} {v:Value},RdT E w x v→RdT E' w' x v
 | .int k n,v,h=>by simp only [RdT] at h⊢;exact h.mono L
 | .bool b,v,h=>by simp only [RdT] at h⊢;exact h.mono L
 | .str b,v,h=>by simp only [RdT] at h⊢;exact h.mono L
 | .nilS,v,h=>by simp only [RdT] at h⊢;exact h.mono L
 | .agg l,v,h=>by simp only [RdT] at h⊢;obtain⟨cs,h1,h2⟩:=h;exact⟨cs,h1,h2.mono L⟩
 | .arr s l,v,h=>by simp only [RdT] at h⊢;obtain⟨cs,h1,h2⟩:=h;exact⟨cs,h1,h2.mono L⟩
 | .sl t s l,v,h=>by simp only [RdT] at h⊢;exact h.mono L
 | .own r g,v,h=>by simp only [RdT] at h⊢;exact h.mono L
 | .ptr r g p o,v,h=>by simp only [RdT] at h⊢;exact h.mono L
 | .osl r g s a b,v,h=>by simp only [RdT] at h⊢;exact h.mono L
 | .rp x,v,h=>by simp only [RdT] at h⊢;exact h.mono L
 | .fn f,v,h=>by simp only [RdT] at h⊢;exact h.mono L
 | .lit f,v,h=>by simp only [RdT] at h⊢;exact h.mono L
 | .tup l,v,h=>by simp only [RdT] at h⊢;obtain⟨vs,h1,h2⟩:=h;exact⟨vs,h1,h2.mono L⟩
 | .clo f l,v,h=>by simp only [RdT] at h⊢;obtain⟨vs,h1,h2⟩:=h;exact⟨vs,h1.mono L.1,h2.mono L⟩
 | .junk,v,h=>by simp only [RdT]
theorem RdTs.mono (L:Leads E w E' w'):∀{l:List V} {vs:List Value},RdTs E w l vs→RdTs E' w' l vs
 |[],xs,h=>by simp only [RdTs] at h⊢;exact h
 |a::l,xs,h=>by
  simp only [RdTs] at h⊢;obtain⟨c,ys,h1,h2,h3⟩:=h;exact⟨c,ys,h1,h2.mono L,h3.mono L⟩
end
mutual
theorem RdV.cut {m:Nat} (hm:m≤E.ref.length):∀{x:V} {cs:List Value},x.scp m=true→RdV E w x cs→RdV {E with ref:=E.ref.take m} w x cs
 | .int k n,cs,_,h=>by simp only [RdV] at h⊢;exact h
 | .bool b,cs,_,h=>by simp only [RdV] at h⊢;exact h
 | .str b,cs,_,h=>by simp only [RdV] at h⊢;exact h
 | .nilS,cs,_,h=>by simp only [RdV] at h⊢;exact h
 | .agg l,cs,hs,h=>by simp only [V.scp] at hs;simp only [RdV] at h⊢;exact h.cut hm hs
 | .arr s l,cs,hs,h=>by simp only [V.scp] at hs;simp only [RdV] at h⊢;exact⟨h.1.cut hm hs,h.2⟩
 | .sl t s l,cs,hs,h=>by
  simp only [RdV] at h⊢;obtain⟨h1,h2,A,c,h3,h4,h5,h6⟩:=h;refine⟨h1,h2,A,c,h3,h4,h5,fun h0=>?_⟩;obtain⟨b,o,xs,hA,hb,hf,hr,ha⟩:=h6 h0;exact⟨b,o,xs,hA,hb,hf,RdL.cutp h1 hr,ha⟩
 | .own r g,cs,hs,h=>by
  simp only [V.scp,decide_eq_true_eq] at hs;simp only [RdV] at h⊢;obtain⟨v,h1,h2,h3,h4⟩:=h;exact⟨v,h1,h2,by simp;omega,fun gc u hu=>h4 gc u (by rw [List.getElem?_take,if_pos hs] at hu;exact hu)⟩
 | .ptr r g p o,cs,hs,h=>by
  simp only [V.scp,decide_eq_true_eq] at hs;simp only [RdV] at h⊢;obtain⟨v,h1,h2,h3,h4⟩:=h;exact⟨v,h1,h2,by simp;omega,fun gc u hu=>h4 gc u (by rw [List.getElem?_take,if_pos hs] at hu;exact hu)⟩
 | .osl r g s a b,cs,hs,h=>by
  simp only [V.scp,decide_eq_true_eq] at hs;simp only [RdV] at h⊢;obtain⟨v,h1,h2,h3,h4⟩:=h;exact⟨v,h1,h2,by simp;omega,fun gc u hu=>h4 gc u (by rw [List.getElem?_take,if_pos hs] at hu;exact hu)⟩
 | .rp x,cs,hs,h=>by
  simp only [RdV] at h⊢;obtain⟨h1,b,o,xs,h2,h3,h4,h5⟩:=h;exact⟨h1,b,o,xs,h2,h3,RdV.cutp h1 h4,h5⟩
 | .fn f,cs,_,h=>by simp only [RdV] at h⊢;exact h
 | .lit f,cs,_,h=>by simp only [RdV] at h⊢;exact h
 | .tup l,cs,_,h=>by simp only [RdV] at h
 | .clo f l,cs,_,h=>by simp only [RdV] at h
 | .junk,cs,_,h=>by simp only [RdV] at h
theorem RdL.cut {m:Nat} (hm:m≤E.ref.length):∀{l:List V} {cs:List Value},V.scps m l=true→RdL E w l cs→RdL {E with ref:=E.ref.take m} w l cs
 |[],xs,_,h=>by simp only [RdL] at h⊢;exact h
 |a::l,xs,hs,h=>by
  simp only [V.scps,Bool.and_eq_true] at hs;simp only [RdL] at h⊢;obtain⟨c,ys,h1,h2,h3⟩:=h;exact⟨c,ys,h1,h2.cut hm hs.1,h3.cut hm hs.2⟩
theorem RdV.cutp {R:List (Nat×Value)}:∀{x:V} {cs:List Value},x.pure=true→RdV E w x cs→RdV {E with ref:=R} w x cs
 | .int k n,cs,_,h=>by simp only [RdV] at h⊢;exact h
 | .bool b,cs,_,h=>by simp only [RdV] at h⊢;exact h
 | .str b,cs,_,h=>by simp only [RdV] at h⊢;exact h
 | .nilS,cs,_,h=>by simp only [RdV] at h⊢;exact h
 | .agg l,cs,hs,h=>by simp only [V.pure] at hs;simp only [RdV] at h⊢;exact RdL.cutp hs h
 | .arr s l,cs,hs,h=>by simp only [V.pure] at hs;simp only [RdV] at h⊢;exact⟨RdL.cutp hs h.1,h.2⟩
 | .sl t s l,cs,hs,h=>by
  simp only [RdV] at h⊢;obtain⟨h1,h2,A,c,h3,h4,h5,h6⟩:=h;refine⟨h1,h2,A,c,h3,h4,h5,fun h0=>?_⟩;obtain⟨b,o,xs,hA,hb,hf,hr,ha⟩:=h6 h0;exact⟨b,o,xs,hA,hb,hf,RdL.cutp h1 hr,ha⟩
 | .own r g,cs,hs,h=>by simp [V.pure] at hs
 | .ptr r g p o,cs,hs,h=>by simp [V.pure] at hs
 | .osl r g s a b,cs,hs,h=>by simp [V.pure] at hs
 | .rp x,cs,hs,h=>by simp [V.pure] at hs
 | .fn f,cs,hs,h=>by simp [V.pure] at hs
 | .lit f,cs,hs,h=>by simp [V.pure] at hs
 | .tup l,cs,_,h=>by simp only [RdV] at h
 | .clo f l,cs,_,h=>by simp only [RdV] at h
 | .junk,cs,_,h=>by simp only [RdV] at h
theorem RdL.cutp {R:List (Nat×Value)}:∀{l:List V} {cs:List Value},V.pures l=true→RdL E w l cs→RdL {E with ref:=R} w l cs
 |[],xs,_,h=>by simp only [RdL] at h⊢;exact h
 |a::l,xs,hs,h=>by
  simp only [V.pures,Bool.and_eq_true] at hs;simp only [RdL] at h⊢;obtain⟨c,ys,h1,h2,h3⟩:=h;exact⟨c,ys,h1,RdV.cutp hs.1 h2,RdL.cutp hs.2 h3⟩
end
mutual
theorem RdT.cut {m:Nat} (hm:m≤E.ref.length):∀{x:V} {v:Value},x.scp m=true→RdT E w x v→RdT {E with ref:=E.ref.take m} w x v
 | .int k n,v,hs,h=>by simp only [RdT] at h⊢;exact h.cut hm hs
 | .bool b,v,hs,h=>by simp only [RdT] at h⊢;exact h.cut hm hs
 | .str b,v,hs,h=>by simp only [RdT] at h⊢;exact h.cut hm hs
 | .nilS,v,hs,h=>by simp only [RdT] at h⊢;exact h.cut hm hs
 | .agg l,v,hs,h=>by simp only [RdT] at h⊢;obtain⟨cs,h1,h2⟩:=h;exact⟨cs,h1,h2.cut hm hs⟩
 | .arr s l,v,hs,h=>by simp only [RdT] at h⊢;obtain⟨cs,h1,h2⟩:=h;exact⟨cs,h1,h2.cut hm hs⟩
 | .sl t s l,v,hs,h=>by simp only [RdT] at h⊢;exact h.cut hm hs
 | .own r g,v,hs,h=>by simp only [RdT] at h⊢;exact h.cut hm hs
 | .ptr r g p o,v,hs,h=>by simp only [RdT] at h⊢;exact h.cut hm hs
 | .osl r g s a b,v,hs,h=>by simp only [RdT] at h⊢;exact h.cut hm hs
 | .rp x,v,hs,h=>by simp only [RdT] at h⊢;exact h.cut hm hs
 | .fn f,v,hs,h=>by simp only [RdT] at h⊢;exact h.cut hm hs
 | .lit f,v,hs,h=>by simp only [RdT] at h⊢;exact h.cut hm hs
 | .tup l,v,hs,h=>by simp only [V.scp] at hs;simp only [RdT] at h⊢;obtain⟨vs,h1,h2⟩:=h;exact⟨vs,h1,h2.cut hm hs⟩
 | .clo f l,v,hs,h=>by simp only [V.scp] at hs;simp only [RdT] at h⊢;obtain⟨vs,h1,h2⟩:=h;exact⟨vs,h1,h2.cut hm hs⟩
 | .junk,v,hs,h=>by simp only [RdT]
theorem RdTs.cut {m:Nat} (hm:m≤E.ref.length):∀{l:List V} {vs:List Value},V.scps m l=true→RdTs E w l vs→RdTs {E with ref:=E.ref.take m} w l vs
 |[],xs,_,h=>by simp only [RdTs] at h⊢;exact h
 |a::l,xs,hs,h=>by
  simp only [V.scps,Bool.and_eq_true] at hs;simp only [RdTs] at h⊢;obtain⟨c,ys,h1,h2,h3⟩:=h;exact⟨c,ys,h1,h2.cut hm hs.1,h3.cut hm hs.2⟩
end
end
section
variable {E:Env} {w:World}
theorem RdL.app:∀{l m:List V} {xs ys:List Value},RdL E w l xs→RdL E w m ys→RdL E w (l++m) (xs++ys)
 |[],m,xs,ys,h,k=>by simp only [RdL] at h;subst h;exact k
 |a::l,m,xs,ys,h,k=>by
  simp only [RdL] at h;obtain⟨c,zs,rfl,h1,h2⟩:=h;show RdL E w (a::(l++m)) _;simp only [RdL];exact⟨c,zs++ys,by rw [List.append_assoc],h1,h2.app k⟩
theorem RdL.split:∀{l m:List V} {xs:List Value},RdL E w (l++m) xs→∃ys zs,xs=ys++zs∧RdL E w l ys∧RdL E w m zs
 |[],m,xs,h=>⟨[],xs,rfl,by simp only [RdL],h⟩
 |a::l,m,xs,h=>by
  have h':RdL E w (a::(l++m)) xs:=h;simp only [RdL] at h';obtain⟨c,zs,rfl,h1,h2⟩:=h';obtain⟨ys,zs',rfl,h3,h4⟩:=RdL.split h2;refine⟨c++ys,zs',by rw [List.append_assoc],?_,h4⟩;simp only [RdL];exact⟨c,ys,rfl,h1,h3⟩
theorem RdL.part {l:List V} {xs:List Value} (h:RdL E w l xs) {i:Nat} (hi:i<l.length):
  ∃ys c zs,xs=ys++(c++zs)∧ys.length=V.sizes (l.take i)∧RdV E w l[i] c∧∀{E'} {w'} (hw:∀x cs,RdV E w x cs→RdV E' w' x cs) x' c',RdV E' w' x' c'→RdL E' w' (l.set i x') (ys++(c'++zs)):=by
 have e:l=l.take i++(l[i]::l.drop (i+1)):=by rw [List.getElem_cons_drop,List.take_append_drop]
 have h':RdL E w (l.take i++(l[i]::l.drop (i+1))) xs:=by rw [←e];exact h
 obtain⟨ys,zs,rfl,h1,h2⟩:=h'.split;simp only [RdL] at h2;obtain⟨c,zs',rfl,h3,h4⟩:=h2;refine⟨ys,c,zs',rfl,h1.len,h3,fun {E'} {w'} hw x' c' hx=>?_⟩;have e2:l.set i x'=l.take i++(x'::l.drop (i+1)):=by rw [List.set_eq_take_append_cons_drop,if_pos hi]
 have lift:∀{m:List V} {cs:List Value},RdL E w m cs→RdL E' w' m cs:=by
  intro m
  induction m with
  |nil=>intro cs hm;simp only [RdL] at hm⊢;exact hm
  |cons a m ih=>
   intro cs hm;simp only [RdL] at hm⊢;obtain⟨c1,y1,e1,k1,k2⟩:=hm;exact⟨c1,y1,e1,hw _ _ k1,ih k2⟩
 rw [e2];refine RdL.app (lift h1) ?_;simp only [RdL];exact⟨c',zs',rfl,hx,lift h4⟩
end
def eU:Nat→V→List Nat→V×Nat×Prop
 |acc,x,[]=>(x,acc,True)
 |acc,.agg l,j::p=>((eU (acc+V.sizes (l.take j)) (l.getD j .junk) p).1,(eU (acc+V.sizes (l.take j)) (l.getD j .junk) p).2.1,j<l.length∧(eU (acc+V.sizes (l.take j)) (l.getD j .junk) p).2.2)
 |acc,.arr s l,j::p=>((eU (acc+j*s) (l.getD j .junk) p).1,(eU (acc+j*s) (l.getD j .junk) p).2.1,j<l.length∧(eU (acc+j*s) (l.getD j .junk) p).2.2)
 |_,_,_=>(.junk,0,False)
def uU:V→List Nat→V→V
 |_,[],y=>y
 | .agg l,j::p,y=> .agg (l.set j (uU (l.getD j .junk) p y))
 | .arr s l,j::p,y=> .arr s (l.set j (uU (l.getD j .junk) p y))
 |x,_,_=>x
theorem rF {l:List V} {j:Nat} (h:j<l.length):l.getD j .junk=l[j]:=by rw [List.getD_eq_getElem?_getD,List.getElem?_eq_getElem h];rfl
theorem xss:∀{l:List V} {j:Nat} {y:V} (h:j<l.length),y.size=l[j].size→V.sizes (l.set j y)=V.sizes l
 |a::l,0,y,_,h=>by simp only [List.set_cons_zero,V.sizes];rw [show y.size=a.size from h]
 |a::l,j+1,y,hj,h=>by simp only [List.set_cons_succ,V.sizes];rw [xss (by simpa using hj) (by simpa using h)]
theorem xmd {E:Env} {w:World}:∀(p:List Nat) (acc:Nat) (x:V) (cs:List Value),RdV E w x cs→(eU acc x p).2.2→
  ∃pre c post,cs=pre++(c++post)∧acc+pre.length=(eU acc x p).2.1∧RdV E w (eU acc x p).1 c∧
   ∀{E':Env} {w':World} (hw:∀x cs,RdV E w x cs→RdV E' w' x cs) (y:V) (c':List Value),y.size=(eU acc x p).1.size→RdV E' w' y c'→RdV E' w' (uU x p y) (pre++(c'++post))∧(uU x p y).size=x.size
 |[],acc,x,cs,h,_=>⟨[],cs,[],by simp,by simp [eU],by simpa [eU] using h,fun {E' w'} hw y c' hs hy=>by simp only [eU] at hs;simp [uU,hy,hs]⟩
 |j::p,acc,.agg l,cs,h,hc=>by
  simp only [eU] at hc⊢;obtain⟨hj,hc⟩:=hc;simp only [RdV] at h;obtain⟨ys,c,zs,rfl,h1,h2,h3⟩:=h.part hj;rw [rF hj] at hc⊢;obtain⟨pre,c1,post,rfl,k1,k2,k3⟩:=xmd p (acc+V.sizes (l.take j)) l[j] c h2 hc;refine⟨ys++pre,c1,post++zs,by simp,by rw [List.length_append];omega,k2,fun {E' w'} hw y c' hs hy=>?_⟩;obtain⟨m1,m2⟩:=k3 hw y c' hs hy;simp only [uU,rF hj,RdV,V.size];refine⟨?_,xss hj m2⟩;have:=h3 hw _ _ m1;simpa using this
 |j::p,acc,.arr s l,cs,h,hc=>by
  simp only [eU] at hc⊢;obtain⟨hj,hc⟩:=hc;simp only [RdV] at h;obtain⟨h,hU⟩:=h;obtain⟨ys,c,zs,rfl,h1,h2,h3⟩:=h.part hj;rw [rF hj] at hc⊢;obtain⟨pre,c1,post,rfl,k1,k2,k3⟩:=xmd p (acc+j*s) l[j] c h2 hc;have e:V.sizes (l.take j)=j*s:=by rw [wP (hU.take j),List.length_take,Nat.min_eq_left ω,Nat.mul_comm]
  refine⟨ys++pre,c1,post++zs,by simp,by rw [List.length_append];omega,k2,fun {E' w'} hw y c' hs hy=>?_⟩;obtain⟨m1,m2⟩:=k3 hw y c' hs hy;simp only [uU,rF hj,RdV,V.size,List.length_set];refine⟨⟨?_,fun x hx=>?_⟩,trivial⟩
  ·have:=h3 hw _ _ m1
   simpa using this
  ·rcases List.mem_or_eq_of_mem_set hx with hx|rfl
   ·exact hU x hx
   ·rw [m2];exact hU _ (List.getElem_mem hj)
 |j::p,acc,.int k n,cs,h,hc=>by simp [eU] at hc
 |j::p,acc,.bool k,cs,h,hc=>by simp [eU] at hc
 |j::p,acc,.str k,cs,h,hc=>by simp [eU] at hc
 |j::p,acc,.nilS,cs,h,hc=>by simp [eU] at hc
 |j::p,acc,.sl _ _ _,cs,h,hc=>by simp [eU] at hc
 |j::p,acc,.own _ _,cs,h,hc=>by simp [eU] at hc
 |j::p,acc,.ptr _ _ _ _,cs,h,hc=>by simp [eU] at hc
 |j::p,acc,.rp _,cs,h,hc=>by simp [eU] at hc
 |j::p,acc,.tup _,cs,h,hc=>by simp [eU] at hc
 |j::p,acc,.fn _,cs,h,hc=>by simp [eU] at hc
 |j::p,acc,.lit _,cs,h,hc=>by simp [eU] at hc
 |j::p,acc,.junk,cs,h,hc=>by simp [eU] at hc
theorem xr6:∀(p:List Nat) (acc:Nat) (x:V),x.pure=true→(eU acc x p).2.2→(eU acc x p).1.pure=true∧∀y:V,y.pure=true→(uU x p y).pure=true
 |[],acc,x,h,_=>⟨by simpa [eU] using h,fun y hy=>by simpa [uU] using hy⟩
 |j::p,acc,.agg l,h,hc=>by
  simp only [eU] at hc⊢;obtain⟨hj,hc⟩:=hc;simp only [V.pure] at h;rw [rF hj] at hc⊢;obtain⟨k1,k2⟩:=xr6 p _ l[j] (pures_iff.1 h _ (List.getElem_mem hj)) hc;refine⟨k1,fun y hy=>?_⟩;simp only [uU,rF hj,V.pure];refine pures_iff.2 fun x hx=>?_;rcases List.mem_or_eq_of_mem_set hx with hx|rfl
  ·exact pures_iff.1 h x hx
  ·exact k2 y hy
 |j::p,acc,.arr s l,h,hc=>by
  simp only [eU] at hc⊢;obtain⟨hj,hc⟩:=hc;simp only [V.pure] at h;rw [rF hj] at hc⊢;obtain⟨k1,k2⟩:=xr6 p _ l[j] (pures_iff.1 h _ (List.getElem_mem hj)) hc;refine⟨k1,fun y hy=>?_⟩;simp only [uU,rF hj,V.pure];refine pures_iff.2 fun x hx=>?_;rcases List.mem_or_eq_of_mem_set hx with hx|rfl
  ·exact pures_iff.1 h x hx
  ·exact k2 y hy
 |j::p,acc,.int k n,h,hc=>by simp [eU] at hc
 |j::p,acc,.bool k,h,hc=>by simp [eU] at hc
 |j::p,acc,.str k,h,hc=>by simp [eU] at hc
 |j::p,acc,.nilS,h,hc=>by simp [eU] at hc
 |j::p,acc,.sl _ _ _,h,hc=>by simp [eU] at hc
 |j::p,acc,.own _ _,h,hc=>by simp [eU] at hc
 |j::p,acc,.ptr _ _ _ _,h,hc=>by simp [eU] at hc
 |j::p,acc,.rp _,h,hc=>by simp [eU] at hc
 |j::p,acc,.tup _,h,hc=>by simp [eU] at hc
 |j::p,acc,.fn _,h,hc=>by simp [eU] at hc
 |j::p,acc,.lit _,h,hc=>by simp [eU] at hc
 |j::p,acc,.junk,h,hc=>by simp [eU] at hc
end Rdn.Dp
namespace Rdn.Dp
open Go Go.RowKit Rdn
inductive OK where
 |box (q:Bool) (T:TypeId)
 |row (e:TypeId)
 |rows (q:Bool) (e:TypeId)
structure Ob where
 k:OK
 live:Bool
 g:Nat
 v:V
def OK.base (n:Nat):OK→Nat
 | .rows true _=>0
 |_=>n
theorem OK.base_mono {m n:Nat} (h:m≤n) (k:OK):k.base m≤k.base n:=by
 unfold OK.base;split
 ·exact Nat.le_refl _
 ·exact h
theorem OK.base_le (n:Nat) (k:OK):k.base n≤n:=by
 unfold OK.base;split
 ·exact Nat.zero_le _
 ·exact Nat.le_refl _
def Ob.scp (m:Nat) (o:Ob):Bool:=match o.k with| .box _ _=>o.v.scp m| .row _=>true| .rows _ _=>o.v.scp m
structure AS where
 n:Nat
 t:List (Nat×V)
 ob:List Ob
def aV:List (Nat×V)→Nat→V
 |[],_=> .junk
 |(j,x)::l,i=>if j=i then x else aV l i
def AS.put (σ:AS) (d:Option Nat) (x:V):AS:=match d with
 |none=>σ
 |some i=>{σ with t:=(i,x)::σ.t}
structure Cx where
 W:World
 lent:Nat→Prop
 S:Nat→Prop
def OkO (cx:Cx) (E:Env) (w:World) (o:Ob) (u:Value):Prop:=
 match o.k with
 | .box q T=>∃b cs,u=.pointer (some ⟨b,0,none⟩)∧w.heap[b]?=some (.cells cs.toArray T (0,0))∧RdV E w o.v cs∧(if q then cx.lent b∧¬cx.S (cx.W.heap.size+b) else cx.W.heap.size≤b)∧(if o.live then ¬E.B b else E.B b∧E.F b∧o.v.pure=true)
 | .row e=>∃s l xs,o.v=.arr s l∧V.pures l=true∧Unif s l∧0<s∧l.length≤140737488355328∧w.ownsRow cx.W.heap.size e s u l.length xs∧RdL E w l xs∧(∀b,aP u=some b→if o.live then ¬E.B b else E.B b)
 | .rows q e=>o.live=true∧∃s l xs,o.v=.arr s l∧Unif s l∧0<s∧l.length≤140737488355328∧w.ownsRow ((OK.rows q e).base cx.W.heap.size) e s u l.length xs∧RdL E w l xs∧(∀b,aP u=some b→¬E.B b∧(cx.W.heap.size≤b∨cx.lent b))
structure Rel (cx:Cx) (E:Env) (σ:AS) (a:Act) (w:World):Prop where
 df:a.defers=[]
 n:a.tmps.size=σ.n
 tm:∀i,RdT E w (aV σ.t i) (a.tmps.getD i undef)
 len:E.ref.length=σ.ob.length
 ob:∀(r:Nat) (o:Ob),σ.ob[r]?=some o→∃u,E.ref[r]?=some (o.g,u)∧OkO cx E w o u
 sep:∀(r r':Nat) (o o':Ob) (g g':Nat) (u u':Value) (b:Nat),r≠r'→σ.ob[r]?=some o→σ.ob[r']?=some o'→o.live=true→o'.live=true→E.ref[r]?=some (g,u)→E.ref[r']?=some (g',u')→aP u=some b→aP u'=some b→False
 lt:∀b,E.B b→b<w.heap.size
 fr:∀b,E.F b↔cx.W.heap.size≤b
 old:∀b,E.B b→b<cx.W.heap.size→cx.S b
 keep:Keep cx.lent cx.W w
theorem xpq (a:Act) (i:Nat) (v:Value) (j:Nat) (hi:i<a.tmps.size):(a.put (some i) v).tmps.getD j undef=if i=j then v else a.tmps.getD j undef:=by
 simp only [Act.put,Array.getD_eq_getD_getElem?,Array.getElem?_setIfInBounds];split
 ·rename_i h;subst h;simp
 ·rfl
theorem yv0 (σ:AS) (i:Nat) (x:V) (j:Nat):aV (σ.put (some i) x).t j=if i=j then x else aV σ.t j:=rfl
section
variable {cx:Cx} {E E':Env} {σ:AS} {a:Act} {w w':World}
theorem Rel.put (R:Rel cx E σ a w) {d:Option Nat} {x:V} {v:Value} (hd:∀i,d=some i→i<σ.n) (h:RdT E w x v):Rel cx E (σ.put d x) (a.put d v) w:=by
 cases d with
 |none=>exact R
 |some i=>
  have hi:i<a.tmps.size:=by rw [R.n];exact hd i rfl
  refine⟨R.df,by show(a.tmps.setIfInBounds i v).size=σ.n;simp [R.n],fun j=>?_,R.len,R.ob,R.sep,R.lt,R.fr,R.old,R.keep⟩;rw [xpq a i v j hi,yv0];split
  ·exact h
  ·exact R.tm j
theorem Rel.less (R:Rel cx E σ a w) {t:List (Nat×V)} (h:∀i,aV t i=.junk∨aV t i=aV σ.t i):Rel cx E {σ with t:=t} a w:=
 ⟨R.df,R.n,fun i=>by rcases h i with h|h<;>rw [h];(· simp only [RdT]);exact R.tm i,R.len,R.ob,R.sep,R.lt,R.fr,R.old,R.keep⟩
theorem OkO.cut {m:Nat} {o:Ob} {u:Value} (hm:m≤E.ref.length) (hs:o.scp m=true) (h:OkO cx E w o u):OkO cx {E with ref:=E.ref.take m} w o u:=by
 unfold OkO at h⊢;split at h
 ·rename_i hk
  simp only [Ob.scp,hk] at hs;obtain⟨b,cs,h1,h2,h3,h4,h5⟩:=h;exact⟨b,cs,h1,h2,h3.cut hm hs,h4,h5⟩
 ·obtain⟨s,l,xs,h1,h2,h3,h4,h5,h6,h7,h8⟩:=h
  exact⟨s,l,xs,h1,h2,h3,h4,h5,h6,RdL.cutp h2 h7,h8⟩
 ·rename_i hk
  simp only [Ob.scp,hk] at hs;obtain⟨h0,s,l,xs,h1,h3,h4,h5,h6,h7,h8⟩:=h;rw [h1] at hs;exact⟨h0,s,l,xs,h1,h3,h4,h5,h6,h7.cut hm (by simpa only [V.scp] using hs),h8⟩
theorem Rel.cut (R:Rel cx E σ a w) (m:Nat) (hm:m≤σ.ob.length) (ht:∀i,(aV σ.t i).scp m=true) (ho:∀o∈σ.ob.take m,o.scp m=true):Rel cx {E with ref:=E.ref.take m} {σ with ob:=σ.ob.take m} a w:=by
 have hm':m≤E.ref.length:=by rw [R.len];exact hm
 refine⟨R.df,R.n,fun i=>(R.tm i).cut hm' (ht i),by simp [R.len],fun r o hr=>?_,fun r r' o o' g g' u u' b h1 h2 h3 h4 h5 h6 h7 h8 h9=>?_,R.lt,R.fr,R.old,R.keep⟩
 ·have hrm:r<m:=by
   have:=(List.getElem?_eq_some_iff.1 hr).1;simp at this;omega
  have hr':σ.ob[r]?=some o:=by simpa [List.getElem?_take,hrm] using hr
  obtain⟨u,k1,k2⟩:=R.ob r o hr';exact⟨u,by simp [hrm,k1],k2.cut hm' (ho o (List.mem_of_getElem? hr))⟩
 ·have tk:∀{α:Type} {l:List α} {j:Nat} {x:α},(l.take m)[j]?=some x→l[j]?=some x:=by
   intro α l j x h;rw [List.getElem?_take] at h;split at h
   ·exact h
   ·cases h
  exact R.sep r r' o o' g g' u u' b h1 (tk h2) (tk h3) h4 h5 (tk h6) (tk h7) h8 h9
theorem Leads.heap (hw:∀b,E.B b→w'.heap[b]?=w.heap[b]?):Leads E w E w':=⟨fun b hb=>⟨hb,hw b hb⟩,fun _ h=>h,Nat.le_refl _,fun _ g u _ h=>⟨g,u,h,Nat.le_refl _,fun _=>rfl⟩⟩
theorem ybt {base:Nat} {e:TypeId} {s n:Nat} {u:Value} {xs:List Value} (h:w.ownsRow base e s u n xs) (hb:∀b,aP u=some b→w'.heap[b]?=w.heap[b]?):w'.ownsRow base e s u n xs:=by
 refine⟨h.1,?_⟩;rcases h.2 with hn|⟨g,cap,cur,rfl,h1,h2,h3⟩
 ·exact .inl hn
 ·exact .inr ⟨g,cap,cur,rfl,h1,(hb g rfl).trans h2,h3⟩
theorem OkO.keep {o:Ob} {u:Value} (L:Leads E w E' w') (h:OkO cx E w o u) (hb:∀b,aP u=some b→w'.heap[b]?=w.heap[b]?) (hB:o.live=true→∀b,aP u=some b→¬E.B b→¬E'.B b):OkO cx E' w' o u:=by
 unfold OkO at h⊢;split at h
 ·obtain⟨b,cs,h1,h2,h3,h4,h5⟩:=h
  subst h1;refine⟨b,cs,rfl,(hb b rfl).trans h2,h3.mono L,h4,?_⟩;cases hl:o.live with
  |true=>rw [hl] at h5;simpa using hB hl b rfl (by simpa using h5)
  |false=>rw [hl] at h5;simp only [Bool.false_eq_true,if_false] at h5⊢;exact⟨(L.b b h5.1).1,L.f b h5.2.1,h5.2.2⟩
 ·obtain⟨s,l,xs,h1,h2,h3,h4,h5,h6,h7,h8⟩:=h
  refine⟨s,l,xs,h1,h2,h3,h4,h5,ybt h6 hb,h7.mono L,fun b hbb=>?_⟩;have:=h8 b hbb;cases hl:o.live with
  |true=>rw [hl] at this;simpa using hB hl b hbb (by simpa using this)
  |false=>rw [hl] at this;simp only [Bool.false_eq_true,if_false] at this⊢;exact(L.b b this).1
 ·obtain⟨h0,s,l,xs,h1,h3,h4,h5,h6,h7,h8⟩:=h
  exact⟨h0,s,l,xs,h1,h3,h4,h5,ybt h6 hb,h7.mono L,fun b hbb=>⟨hB h0 b hbb (h8 b hbb).1,(h8 b hbb).2⟩⟩
theorem OkO.blk_lt {o:Ob} {u:Value} (h:OkO cx E w o u) {b:Nat} (hb:aP u=some b):b<w.heap.size:=by
 unfold OkO at h;split at h
 ·obtain⟨b',cs,rfl,h2,_⟩:=h
  simp only [aP,Option.some.injEq] at hb;subst hb;exact xcr h2
 ·obtain⟨s,l,xs,h1,h2,h3,h4,h5,h6,h7,h8⟩:=h
  rcases h6.2 with ⟨rfl,_⟩|⟨g,cap,cur,rfl,k1,k2,k3⟩
  ·simp [aP] at hb
  ·simp only [aP,Option.some.injEq] at hb
   subst hb;exact xcr k2
 ·obtain⟨h0,s,l,xs,h1,h3,h4,h5,h6,h7,h8⟩:=h
  rcases h6.2 with ⟨rfl,_⟩|⟨g,cap,cur,rfl,k1,k2,k3⟩
  ·simp [aP] at hb
  ·simp only [aP,Option.some.injEq] at hb
   subst hb;exact xcr k2
theorem OkO.live_B {o:Ob} {u:Value} (h:OkO cx E w o u) (hl:o.live=true) {b:Nat} (hb:aP u=some b):¬E.B b:=by
 unfold OkO at h;split at h
 ·obtain⟨b',cs,rfl,h2,_,_,h5⟩:=h
  simp only [aP,Option.some.injEq] at hb;subst hb;rw [hl] at h5;simpa using h5
 ·obtain⟨s,l,xs,h1,h2,h3,h4,h5,h6,h7,h8⟩:=h
  have:=h8 b hb;rw [hl] at this;simpa using this
 ·obtain⟨h0,s,l,xs,h1,h3,h4,h5,h6,h7,h8⟩:=h
  exact(h8 b hb).1
theorem OkO.wr {o:Ob} {u:Value} (h:OkO cx E w o u) {b:Nat} (hb:aP u=some b):cx.W.heap.size≤b∨cx.lent b:=by
 unfold OkO at h;split at h
 ·obtain⟨b',cs,rfl,h2,_,h4,h5⟩:=h
  simp only [aP,Option.some.injEq] at hb;subst hb;split at h4
  ·exact .inr h4.1
  ·exact .inl h4
 ·obtain⟨s,l,xs,h1,h2,h3,h4,h5,h6,h7,h8⟩:=h
  rcases h6.2 with ⟨rfl,_⟩|⟨g,cap,cur,rfl,k1,k2,k3⟩
  ·simp [aP] at hb
  ·simp only [aP,Option.some.injEq] at hb
   subst hb;exact .inl k1
 ·obtain⟨h0,s,l,xs,h1,h3,h4,h5,h6,h7,h8⟩:=h
  exact(h8 b hb).2
theorem Rel.grow (R:Rel cx E σ a w) (hk:Below w.heap.size w w'):Rel cx E σ a w':=by
 have L:Leads E w E w':=Leads.heap fun b hb=>hk.block b (R.lt b hb);refine⟨R.df,R.n,fun i=>(R.tm i).mono L,R.len,fun r o hr=>?_,R.sep,fun b hb=>Nat.lt_of_lt_of_le (R.lt b hb) hk.size,R.fr,R.old,?_⟩
 ·obtain⟨u,k1,k2⟩:=R.ob r o hr
  exact⟨u,k1,k2.keep L (fun b hb=>hk.block b (k2.blk_lt hb)) (fun _ _ _ h=>h)⟩
 ·exact R.keep.trans ((Keep.of_below (S:=cx.lent) hk))
theorem Rel.drew (R:Rel cx E σ a w):Rel cx E σ a {w with drawn:=w.drawn+1}:=R.grow ⟨rfl,rfl,rfl,Nat.le_refl _,fun _ _=>rfl⟩
theorem Rel.new (R:Rel cx E σ a w) {o:Ob} {u:Value} (hb:Below w.heap.size w w') (hbl:∀b,aP u=some b→w.heap.size≤b)
  (hg:o.g=0) (hl:o.live=true) (ho:OkO cx {E with ref:=E.ref++[(0,u)]} w' o u):
  Leads E w {E with ref:=E.ref++[(0,u)]} w'∧Rel cx {E with ref:=E.ref++[(0,u)]} {σ with ob:=σ.ob++[o]} a w':=by
 have L:Leads E w {E with ref:=E.ref++[(0,u)]} w':=by
  refine⟨fun b hb'=>⟨hb',hb.block b (R.lt b hb')⟩,fun _ h=>h,by simp,fun r g u' hr h=>⟨g,u',?_,Nat.le_refl _,fun _=>rfl⟩⟩;rw [List.getElem?_append_left hr] at h;exact h
 have old:∀r o',(σ.ob++[o])[r]?=some o'→(r<σ.ob.length∧σ.ob[r]?=some o')∨(r=σ.ob.length∧o'=o):=by
  intro r o' h;rw [List.getElem?_append] at h;split at h
  ·exact .inl ⟨‹_›,h⟩
  ·rename_i hr
   cases hd:r-σ.ob.length with
   |zero=>rw [hd] at h;simp at h;exact .inr ⟨ω,h.symm⟩
   |succ k=>rw [hd] at h;simp at h
 refine⟨L,R.df,R.n,fun i=>(R.tm i).mono L,by simp [R.len],fun r o' hr=>?_,fun r r' o1 o2 g g' u1 u2 b h1 h2 h3 h4 h5 h6 h7 h8 h9=>?_,fun b hb'=>Nat.lt_of_lt_of_le (R.lt b hb') hb.size,R.fr,R.old,R.keep.trans (Keep.of_below (S:=cx.lent) hb)⟩
 ·rcases old r o' hr with ⟨hlt,h⟩|⟨rfl,rfl⟩
  ·obtain⟨u',k1,k2⟩:=R.ob r o' h
   refine⟨u',by rw [List.getElem?_append_left (by rw [R.len];exact hlt)];exact k1,k2.keep L (fun b hbb=>hb.block b (k2.blk_lt hbb)) (fun _ _ _ h=>h)⟩
  ·exact⟨u,by rw [←R.len,List.getElem?_append_right (Nat.le_refl _)];simp [hg],ho⟩
 ·have refs:∀r g u',(E.ref++[(0,u)])[r]?=some (g,u')→(r<σ.ob.length→E.ref[r]?=some (g,u'))∧(r=σ.ob.length→u'=u):=by
   intro r g u' h;refine⟨fun hr=>by rwa [List.getElem?_append_left (by rw [R.len];exact hr)] at h,fun hr=>?_⟩;subst hr;rw [←R.len,List.getElem?_append_right (Nat.le_refl _)] at h;simp at h;exact h.2.symm
  rcases old r o1 h2 with ⟨hlt,k⟩|⟨hr,rfl⟩
  ·rcases old r' o2 h3 with ⟨hlt',k'⟩|⟨hr',rfl⟩
   ·exact R.sep r r' o1 o2 g g' u1 u2 b h1 k k' h4 h5 ((refs _ _ _ h6).1 hlt) ((refs _ _ _ h7).1 hlt') h8 h9
   ·obtain rfl:=(refs _ _ _ h7).2 hr'
    have:=hbl b h9;obtain⟨u0,m1,m2⟩:=R.ob r o1 k;have e:=(refs _ _ _ h6).1 hlt;rw [m1] at e;injection e with e
    injection e with _ e
    subst e;have:=m2.blk_lt h8;omega
  ·rcases old r' o2 h3 with ⟨hlt',k'⟩|⟨hr',rfl⟩
   ·obtain rfl:=(refs _ _ _ h6).2 hr
    have:=hbl b h8;obtain⟨u0,m1,m2⟩:=R.ob r' o2 k';have e:=(refs _ _ _ h7).1 hlt';rw [m1] at e;injection e with e
    injection e with _ e
    subst e;have:=m2.blk_lt h9;omega
   ·omega
theorem Rel.touch (R:Rel cx E σ a w) {r:Nat} {o o':Ob} {u u':Value} (hr:σ.ob[r]?=some o) (hl:o.live=true) (hu:E.ref[r]?=some (o.g,u))
  (hk:Keep (fun b=>aP u=some b) w w') (hl':o'.live=true) (hg:(o'.g=o.g∧u'=u)∨o'.g=o.g+1)
  (hb:∀b,aP u'=some b→aP u=some b∨w.heap.size≤b)
  (ho:OkO cx {E with ref:=E.ref.set r (o'.g,u')} w' o' u'):
  Leads E w {E with ref:=E.ref.set r (o'.g,u')} w'∧Rel cx {E with ref:=E.ref.set r (o'.g,u')} {σ with ob:=σ.ob.set r o'} a w':=by
 have hrl:r<E.ref.length:=(List.getElem?_eq_some_iff.1 hu).1;obtain⟨u0,k1,k2⟩:=R.ob r o hr;rw [hu] at k1;injection k1 with k1
 injection k1 with _ k1
 subst k1;have hBk:∀b,E.B b→w'.heap[b]?=w.heap[b]?:=fun b hb'=>hk.block b (R.lt b hb') (fun e=>k2.live_B hl e hb');have L:Leads E w {E with ref:=E.ref.set r (o'.g,u')} w':=by
  refine⟨fun b hb'=>⟨hb',hBk b hb'⟩,fun _ h=>h,by simp,fun r' g v hr' h=>?_⟩;by_cases e:r=r'
  ·subst e
   rw [List.getElem?_set_self hrl] at h;injection h with h
   injection h with h1 h2
   subst h1 h2;refine⟨o.g,u,hu,ω,fun e=>?_⟩;rcases hg with ⟨_,rfl⟩|hg
   ·rfl
   ·omega
  ·rw [List.getElem?_set_ne e] at h
   exact⟨g,v,h,Nat.le_refl _,fun _=>rfl⟩
 have rl:r<σ.ob.length:=(List.getElem?_eq_some_iff.1 hr).1;refine⟨L,R.df,R.n,fun i=>(R.tm i).mono L,by simp [R.len],fun r' o1 h1=>?_,fun r1 r2 o1 o2 g1 g2 u1 u2 b h1 h2 h3 h4 h5 h6 h7 h8 h9=>?_,fun b hb'=>Nat.lt_of_lt_of_le (R.lt b hb') hk.size,R.fr,R.old,⟨hk.os.trans R.keep.os,hk.tape.trans R.keep.tape,hk.output.trans R.keep.output,Nat.le_trans R.keep.size hk.size,fun k hk' hn=>(hk.block k (Nat.lt_of_lt_of_le hk' R.keep.size) (fun e=>?_)).trans (R.keep.block k hk' hn)⟩⟩
 ·by_cases e:r=r'
  ·subst e
   rw [List.getElem?_set_self rl] at h1;obtain rfl:=Option.some.inj h1;exact⟨u',by rw [List.getElem?_set_self hrl],ho⟩
  ·rw [List.getElem?_set_ne e] at h1
   obtain⟨u1,m1,m2⟩:=R.ob r' o1 h1;refine⟨u1,by rw [List.getElem?_set_ne e];exact m1,m2.keep L (fun b hbb=>?_) (fun _ _ _ h=>h)⟩;refine hk.block b (m2.blk_lt hbb) (fun e'=>?_);cases hl1:o1.live with
   |true=>exact R.sep r r' o o1 o.g o1.g u u1 b e hr h1 hl hl1 hu m1 e' hbb
   |false=>
    have:E.B b:=by
     unfold OkO at m2;split at m2
     ·obtain⟨b',cs,rfl,q2,_,_,q5⟩:=m2
      simp only [aP,Option.some.injEq] at hbb;subst hbb;rw [hl1] at q5;simp only [Bool.false_eq_true,if_false] at q5;exact q5.1
     ·obtain⟨s,l,xs,q1,q2,q3,q4,q5,q6,q7,q8⟩:=m2
      have:=q8 b hbb;rw [hl1] at this;simpa using this
     ·rw [m2.1] at hl1;cases hl1
    exact k2.live_B hl e' this
 ·have key:∀r2 o2 g2 u2,r≠r2→(σ.ob.set r o')[r2]?=some o2→o2.live=true→(E.ref.set r (o'.g,u'))[r2]?=some (g2,u2)→aP u2=some b→aP u'=some b→False:=by
   intro r2 o2 g2 u2 e q1 q2 q3 q4 q5;rw [List.getElem?_set_ne e] at q1 q3;rcases hb b q5 with q|q
   ·exact R.sep r r2 o o2 o.g g2 u u2 b e hr q1 hl q2 hu q3 q q4
   ·obtain⟨u3,m1,m2⟩:=R.ob r2 o2 q1
    rw [q3] at m1;injection m1 with m1
    injection m1 with _ m1
    subst m1;have:=m2.blk_lt q4;omega
  by_cases e1:r=r1
  ·subst e1
   have e2:=h6;rw [List.getElem?_set_self hrl] at e2;injection e2 with e2
   injection e2 with _ e2
   subst e2;exact key r2 o2 g2 u2 h1 h3 h5 h7 h9 h8
  ·by_cases e2:r=r2
   ·subst e2
    have e3:=h7;rw [List.getElem?_set_self hrl] at e3;injection e3 with e3
    injection e3 with _ e3
    subst e3;exact key r1 o1 g1 u1 e1 h2 h4 h6 h8 h9
   ·rw [List.getElem?_set_ne e1] at h2 h6
    rw [List.getElem?_set_ne e2] at h3 h7;exact R.sep r1 r2 o1 o2 g1 g2 u1 u2 b h1 h2 h3 h4 h5 h6 h7 h8 h9
 ·rcases k2.wr e with h|h
  ·omega
  ·exact hn h
end
end Rdn.Dp
namespace Rdn.Dp
open Go Go.RowKit Rdn
inductive X where
 |t (i:Nat)
 |c (x:V)
def X.ev (σ:AS):X→V
 | .t i=>aV σ.t i
 | .c x=>x
def xot:Value→Option V
 | .int k n=>if k.min≤n∧n≤k.max then some (.int k n) else none
 | .bool b=>some (.bool b)
 | .string s=>some (.str s)
 | .slice none 0 0=>some .nilS
 | .pointer none=>some .junk
 |_=>none
def dC:Operand→Option X
 | .tmp i=>some (.t i)
 | .const v=>(xot v).map .c
 | .func f=>some (.c (.fn f))
 | .global _=>none
def V.isAgg:V→Bool
 | .agg _=>true
 | .arr _ _=>true
 |_=>false
def tN:TypeDesc→Bool
 | .struct _=>true
 | .array _ _=>true
 |_=>false
inductive POp where
 |mov (x:X)
 |bin (tb:Nat) (op:BinOp) (x y:X)
 |un (op:UnOp) (x:X)
 |conv (k:IntKind) (x:X)
 |nilc (x:X)
 |load (ag:Bool) (n:Nat) (x:X)
 |fieldA (fo j:Nat) (x:X)
 |field (ag:Bool) (n fo j:Nat) (x:X)
 |idxA (s:Nat) (x i:X)
 |idxAA (m s:Nat) (x i:X)
 |idx (ag:Bool) (m n:Nat) (x i:X)
 |ext (x:X) (j:Nat)
 |len (x:X)
 |lenA (n:Nat)
 |mx (x y:X)
 |mn (x y:X)
 |pick (c x y:X)
 |b2s (x:X)
 |eqs (neg:Bool) (ks:List (Option IntKind)) (x y:X)
 |lenS (x:X)
 |idxS (x i:X)
 |mkf (f:FuncId) (xs:List X)
 |mkb (f:FuncId) (x:X)
 |bad
def bad:V×Prop:=(.junk,False)
def xhr (k:IntKind) (a b:Int):Int:=k.wrap (BitVec.ofInt k.bits a &&& BitVec.ofInt k.bits b).toNat
def bor (k:IntKind) (a b:Int):Int:=k.wrap (BitVec.ofInt k.bits a|||BitVec.ofInt k.bits b).toNat
def zN (k:IntKind) (a b:Int):Int:=k.wrap (BitVec.ofInt k.bits a ^^^ BitVec.ofInt k.bits b).toNat
def xo5 (k:IntKind) (a b:Int):Int:=k.wrap (BitVec.ofInt k.bits a &&& ~~~BitVec.ofInt k.bits b).toNat
def xo7 (op:BinOp) (k:IntKind) (a:Int) (k':IntKind) (b:Int):V×Prop:=
 match op with
 | .shl=>(.int k (k.wrap (a*2 ^ min b.toNat k.bits)),0≤b)
 | .shr=>(.int k (a.fdiv (2 ^ min b.toNat k.bits)),0≤b)
 | .add=>(.int k (k.wrap (a+b)),k=k')
 | .sub=>(.int k (k.wrap (a-b)),k=k')
 | .mul=>(.int k (k.wrap (a*b)),k=k')
 | .quo=>(.int k (k.wrap (a.tdiv b)),k=k'∧b≠0)
 | .rem=>(.int k (a.tmod b),k=k'∧b≠0)
 | .and=>(.int k (xhr k a b),k=k')
 | .or=>(.int k (bor k a b),k=k')
 | .xor=>(.int k (zN k a b),k=k')
 | .andNot=>(.int k (xo5 k a b),k=k')
 | .eql=>(.bool (a==b),k=k')
 | .neq=>(.bool (a !=b),k=k')
 | .lss=>(.bool (decide (a<b)),k=k')
 | .leq=>(.bool (decide (a≤b)),k=k')
 | .gtr=>(.bool (decide (a>b)),k=k')
 | .geq=>(.bool (decide (a≥b)),k=k')
def xhs (tb:Nat) (op:BinOp):V→V→V×Prop
 | .int k a,.int k' b=>xo7 op k a k' b
 | .bool a,.bool b=>match op with
  | .eql=>(.bool (a==b),tb=1)
  | .neq=>(.bool (!(a==b)),tb=1)
  |_=>bad
 | .str a,.str b=>match op with
  | .eql=>(.bool (a.toList==b.toList),True)
  | .neq=>(.bool (!(a.toList==b.toList)),True)
  |_=>bad
 |_,_=>bad
def unV (op:UnOp):V→V×Prop
 | .int k n=>match op with
  | .neg=>(.int k (k.wrap (0-n)),True)
  | .xor=>(.int k (k.wrap (BitVec.ofInt k.bits (if k.signed then-1 else k.max) ^^^ BitVec.ofInt k.bits n).toNat),True)
  |_=>bad
 | .bool b=>match op with
  | .not=>(.bool !b,True)
  |_=>bad
 |_=>bad
def oN (σ:AS) (r g:Nat):V×Prop:=match σ.ob[r]? with
 |some o=>(o.v,o.g=g)
 |none=>bad
def bT (σ:AS) (r g:Nat):Nat×List V×Prop:=match σ.ob[r]? with
 |some ⟨.row _,_,g',.arr s l⟩=>(s,l,g'=g)
 |_=>(0,[],False)
def gG (σ:AS) (r g:Nat):Nat×List V×Prop:=match σ.ob[r]? with
 |some ⟨.row _,_,g',.arr s l⟩=>(s,l,g'=g)
 |some ⟨.rows _ _,_,g',.arr s l⟩=>(s,l,g'=g)
 |_=>(0,[],False)
def xgo (ag:Bool) (n:Nat) (σ:AS):V→V×Prop
 | .rp v=>(v,v.size=n∧v.isAgg=ag)
 | .ptr r g p o=>((eU 0 (oN σ r g).1 p).1,(oN σ r g).2∧(eU 0 (oN σ r g).1 p).2.2∧(eU 0 (oN σ r g).1 p).2.1=o∧(eU 0 (oN σ r g).1 p).1.size=n∧(eU 0 (oN σ r g).1 p).1.isAgg=ag)
 |_=>bad
def xgd (fo j:Nat) (σ:AS):V→V×Prop
 | .rp (.agg l)=>(.rp (l.getD j .junk),j<l.length∧V.sizes (l.take j)=fo)
 | .ptr r g p o=>(.ptr r g (p++[j]) (o+fo),(oN σ r g).2)
 |_=>bad
def xie (ag:Bool) (n fo j:Nat):V→V×Prop
 | .agg l=>(l.getD j .junk,j<l.length∧V.sizes (l.take j)=fo∧(l.getD j .junk).size=n∧(l.getD j .junk).isAgg=ag)
 |_=>bad
def xgj (s:Nat) (σ:AS) (i:Int):V→V×Prop
 | .sl t s' l=>(.rp (l.getD i.toNat .junk),s'=s∧0≤i∧i<l.length)
 | .own r g=>(.ptr r g [i.toNat] (i.toNat*s),(gG σ r g).2.2∧(gG σ r g).1=s∧0≤i∧i<(gG σ r g).2.1.length)
 |_=>bad
def xgi (m s:Nat) (σ:AS) (i:Int):V→V×Prop
 | .ptr r g p o=>(.ptr r g (p++[i.toNat]) (o+i.toNat*s),(oN σ r g).2∧0≤i∧i<m)
 | .rp (.arr s' l)=>(.rp (l.getD i.toNat .junk),s'=s∧l.length=m∧0≤i∧i<m)
 |_=>bad
def xim (ag:Bool) (m n:Nat) (i:Int):V→V×Prop
 | .arr s l=>(l.getD i.toNat .junk,s=n∧l.length=m∧0≤i∧i<m∧(l.getD i.toNat .junk).isAgg=ag)
 |_=>bad
def xgn (σ:AS):V→V×Prop
 | .sl t s l=>(.int .i64 l.length,True)
 | .nilS=>(.int .i64 0,True)
 | .own r g=>(.int .i64 (gG σ r g).2.1.length,(gG σ r g).2.2)
 |_=>bad
def uT (f:Int→V×Prop):V→V×Prop
 | .int _ i=>f i
 |_=>bad
def xh3 (σ:AS):V→V×Prop
 | .ptr r g p o=>(.ptr r g p o,(oN σ r g).2)
 | .rp v=>(.rp v,True)
 |_=>bad
def xid (j:Nat):V→V×Prop
 | .tup l=>(l.getD j .junk,j<l.length)
 |_=>bad
def mxV:V→V→V×Prop
 | .int k a,.int k' b=>(.int k (if b>a then b else a),k=k')
 |_,_=>bad
def mnV:V→V→V×Prop
 | .int k a,.int k' b=>(.int k (if b<a then b else a),k=k')
 |_,_=>bad
def xji:V→V→V→V×Prop
 | .bool true,a,_=>(a,True)
 | .bool false,_,b=>(b,True)
 |_,_,_=>bad
def xa6:V→Int
 | .int _ n=>n
 |_=>0
def xgm:V→Bool
 | .int .u8 _=>true
 |_=>false
def xhi:V→V×Prop
 | .sl t s l=>(.str (strOfNums (l.map xa6)),s=1∧l.all xgm=true)
 | .nilS=>(.str (strOfNums []),True)
 |_=>bad
def vH:List (Option IntKind)→List V→List V→Bool×Prop
 |[],[],[]=>(true,True)
 |some _::ks,.int k m::a,.int k' n::b=>(m==n && (vH ks a b).1,k=k'∧(vH ks a b).2)
 |none::ks,.bool m::a,.bool n::b=>(m==n && (vH ks a b).1,(vH ks a b).2)
 |_,_,_=>(false,False)
def xi5 (neg:Bool) (ks:List (Option IntKind)):V→V→V×Prop
 | .agg a,.agg b=>(.bool (if neg=true then !(vH ks a b).1 else(vH ks a b).1),(vH ks a b).2)
 |_,_=>bad
def xio:V→V×Prop
 | .str s=>(.int .i64 s.size,jE .i64 (s.size:Int))
 |_=>bad
def xf1 (n:Int):V→V×Prop
 | .str s=>(.int .u8 (s[n.toNat]?.getD 0).toNat,0≤n∧n<s.size)
 |_=>bad
def iF (σ:AS):POp→V×Prop
 | .mov x=>(x.ev σ,True)
 | .bin tb op x y=>xhs tb op (x.ev σ) (y.ev σ)
 | .un op x=>unV op (x.ev σ)
 | .conv k x=>uT (fun n=>(.int k (k.wrap n),True)) (x.ev σ)
 | .nilc x=>xh3 σ (x.ev σ)
 | .load ag n x=>xgo ag n σ (x.ev σ)
 | .fieldA fo j x=>xgd fo j σ (x.ev σ)
 | .field ag n fo j x=>xie ag n fo j (x.ev σ)
 | .idxA s x i=>uT (fun n=>xgj s σ n (x.ev σ)) (i.ev σ)
 | .idxAA m s x i=>uT (fun n=>xgi m s σ n (x.ev σ)) (i.ev σ)
 | .idx ag m n x i=>uT (fun k=>xim ag m n k (x.ev σ)) (i.ev σ)
 | .ext x j=>xid j (x.ev σ)
 | .len x=>xgn σ (x.ev σ)
 | .lenA n=>(.int .i64 n,jE .i64 (n:Int))
 | .mx x y=>mxV (x.ev σ) (y.ev σ)
 | .mn x y=>mnV (x.ev σ) (y.ev σ)
 | .pick c x y=>xji (c.ev σ) (x.ev σ) (y.ev σ)
 | .b2s x=>xhi (x.ev σ)
 | .eqs neg ks x y=>xi5 neg ks (x.ev σ) (y.ev σ)
 | .lenS x=>xio (x.ev σ)
 | .idxS x i=>uT (fun k=>xf1 k (x.ev σ)) (i.ev σ)
 | .mkf f xs=>(.clo (.fn f) (xs.map (X.ev σ)),True)
 | .mkb f x=>(.clo (.bm f) [x.ev σ],True)
 | .bad=>bad
def xde (P:Program) (T:TypeId):Nat:=match P.underlying T with
 |some .bool=>1
 |some (.slice _)=>2
 |_=>0
def xii (P:Program):Nat→List Field→Option (List (Option IntKind))
 |_,[]=>some []
 | i, f :: fs => if f.name ≠ "_" ∧ f.offset = i then match P.underlying f.type, xii P (i + 1) fs with
   |some (.int k),some l=>some (some k::l)
   |some .bool,some l=>some (none::l)
   |_,_=>none
  else none
def xkz (P:Program) (T:TypeId):Option (List (Option IntKind)):=
 match P.underlying T with
 |some (.struct fs)=>if P.eqGuardType P.depth T=false∧P.stoodInHeld T=false then xii P 0 fs.toList else none
 |_=>none
def xp9 (P:Program) (T:TypeId):BinOp→Option (Bool×List (Option IntKind))
 | .eql=>(xkz P T).map fun l=>(false,l)
 | .neq=>(xkz P T).map fun l=>(true,l)
 |_=>none
def vF:List Operand→Option (List X)
 |[]=>some []
 |x::l=>match dC x,vF l with
  |some y,some m=>some (y::m)
  |_,_=>none
def xbp (P:Program):Op→Option POp
 | .move x=>(dC x).map .mov
 | .assign x=>(dC x).map .mov
 | .binOp op T x y _=>match xp9 P T op with
  |some (neg,ks)=>(dC x).bind fun x=>(dC y).map fun y=> .eqs neg ks x y
  |none=>(dC x).bind fun x=>(dC y).map fun y=> .bin (xde P T) op x y
 | .unOp op _ x=>(dC x).map (.un op)
 | .pick c x y=>(dC c).bind fun c=>(dC x).bind fun x=>(dC y).map fun y=> .pick c x y
 | .convert s d x=>match P.underlying s,P.underlying d with
  |some _,some (.int k)=>(dC x).map (.conv k)
  |some (.slice e),some .string=>match P.underlying e with
   |some (.int .u8)=>(dC x).map .b2s
   |_=>none
  |_,_=>none
 | .nilCheck x=>(dC x).map .nilc
 | .load T x=>match P.underlying T,P.info? T with
  |some d,some i=>(dC x).map (.load (tN d) i.size)
  |_,_=>none
 | .fieldAddr T x j=>match P.underlying T with
  |some (.struct fs)=>match fs[j]? with
   |some f=>match P.info? f.type with
    |some i=>if i.size=0 then none else(dC x).map (.fieldA f.offset j)
    |none=>none
   |none=>none
  |_=>none
 | .field T x j=>match P.underlying T with
  |some (.struct fs)=>match fs[j]? with
   |some f=>match P.underlying f.type,P.info? f.type with
    |some d,some i=>(dC x).map (.field (tN d) i.size f.offset j)
    |_,_=>none
   |none=>none
  |_=>none
 | .indexAddr T x i=>match P.underlying T with
  |some (.slice e)=>match P.info? e with
   |some f=>(dC x).bind fun x=>(dC i).map fun i=> .idxA f.size x i
   |none=>none
  |some (.array m e)=>match P.info? e with
   |some f=>(dC x).bind fun x=>(dC i).map fun i=> .idxAA m f.size x i
   |none=>none
  |_=>none
 | .index T x i=>match P.underlying T with
  |some (.array m e)=>match P.underlying e,P.info? e with
   |some d,some f=>(dC x).bind fun x=>(dC i).map fun i=> .idx (tN d) m f.size x i
   |_,_=>none
  |some .string=>(dC x).bind fun x=>(dC i).map fun i=> .idxS x i
  |_=>none
 | .extract x j=>(dC x).map (.ext · j)
 | .call {callee:=.builtin b,args:=as,argTypes:=ts}=>match b,as.toList,ts.toList with
  | .len,[x],[t]=>match P.underlying t with
   |some (.slice _)=>(dC x).map .len
   |some .string=>(dC x).map .lenS
   |some (.array n _)=>some (.lenA n)
   |some (.pointer a)=>match P.underlying a with
    |some (.array n _)=>some (.lenA n)
    |_=>none
   |_=>none
  | .max,[x,y],_=>(dC x).bind fun x=>(dC y).map fun y=> .mx x y
  | .min,[x,y],_=>(dC x).bind fun x=>(dC y).map fun y=> .mn x y
  |_,_,_=>none
 | .makeFunc (.func f) first captured=>if first=#[] then(vF captured.toList).map (.mkf f) else match first.toList,captured.toList with
  |[x],[]=>(dC x).map (.mkb f)
  |_,_=>none
 |_=>none
theorem xal (k:IntKind) (n:Int):jE k (k.wrap n):=by
 unfold jE;cases k<;>simp [IntKind.wrap,IntKind.min,IntKind.max,IntKind.signed,IntKind.bits]<;>(try split)<;>omega
theorem ywm {k:IntKind} {a b:Int} (h:jE k a):jE k (a.tmod b):=by
 have le:∀x:Int,0≤x→x.tmod b≤x:=by
  intro x hx;obtain⟨n,rfl⟩:=Int.eq_ofNat_of_zero_le hx;rw [Int.tmod_eq_emod_of_nonneg hx];rcases Int.eq_nat_or_neg b with ⟨m,rfl|rfl⟩
  ·exact_mod_cast Nat.mod_le n m
  ·rw [Int.emod_neg];exact_mod_cast Nat.mod_le n m
 have key:(0≤a→0≤a.tmod b∧a.tmod b≤a)∧(a≤0→a≤a.tmod b∧a.tmod b≤0):=by
  refine⟨fun ha=>⟨Int.tmod_nonneg b ha,le a ha⟩,fun ha=>?_⟩;have e:a.tmod b=-(-a).tmod b:=by rw [Int.neg_tmod];omega
  have:=Int.tmod_nonneg b (a:=-a) ω;have:=le (-a) ω;omega
 obtain⟨h1,h2⟩:=h;have hm:k.min≤0:=by cases k<;>simp [IntKind.min,IntKind.signed,IntKind.bits]
 have hM:0≤k.max:=by cases k<;>simp [IntKind.max,IntKind.signed,IntKind.bits]
 rcases Int.le_total 0 a with ha|ha
 ·have:=key.1 ha;exact⟨ω,ω⟩
 ·have:=key.2 ha;exact⟨ω,ω⟩
theorem yl7 {k:IntKind} {a:Int} (m:Nat) (h:jE k a):jE k (a.fdiv (2 ^ m)):=by
 obtain⟨h1,h2⟩:=h;have hm:k.min≤0:=by cases k<;>simp [IntKind.min,IntKind.signed,IntKind.bits]
 have hM:0≤k.max:=by cases k<;>simp [IntKind.max,IntKind.signed,IntKind.bits]
 have hp:(1:Int)≤2 ^ m:=by have:=Int.pow_pos (n:=2) (m:=m) δ;omega
 rw [Int.fdiv_eq_ediv_of_nonneg _ ω];have hu:a / 2 ^ m≤k.max:=by
  rcases Int.le_total 0 a with ha|ha
  ·have:=Int.ediv_le_self (2 ^ m) ha;omega
  ·have:a / 2 ^ m≤0:=by
    have:=Int.ediv_le_ediv (show(0:Int)<2 ^ m by omega) ha;simpa using this
   omega
 have hl:k.min≤a / 2 ^ m:=by
  refine(Int.le_ediv_iff_mul_le ω).2 ?_;have:k.min*2 ^ m≤k.min*1:=Int.mul_le_mul_of_nonpos_left hm hp;omega
 exact⟨hl,hu⟩
section
variable {P:Program} {cx:Cx} {E:Env} {σ:AS} {a:Act} {w:World}
theorem yi2 {v:Value} {x:V} (h:xot v=some x):RdT E w x v:=by
 unfold xot at h;split at h
 ·split at h
  ·rename_i k n hk
   cases h;simp only [RdT,RdV];exact⟨trivial,hk⟩
  ·cases h
 all_goals first
  |(cases h;simp [RdT,RdV];done)
  |cases h
theorem dX (R:Rel cx E σ a w) {o:Operand} {x:X} (h:dC o=some x):RdT E w (x.ev σ) (a.eval o):=by
 cases o with
 |tmp i=>simp only [dC,Option.some.injEq] at h;subst h;exact R.tm i
 |const v=>
  simp only [dC,Option.map_eq_some_iff] at h;obtain⟨y,h1,rfl⟩:=h;exact yi2 h1
 |func f=>simp only [dC,Option.some.injEq] at h;subst h;simp [X.ev,RdT,RdV,Act.eval]
 |global g=>cases h
theorem yD {E:Env} {a:Act} {w:World} (R:Rel cx E σ a w):∀{as:List Operand} {xs:List X},vF as=some xs→RdTs E w (xs.map (X.ev σ)) (as.map a.eval)
 |[],xs,h=>by simp only [vF,Option.some.injEq] at h;subst h;simp [RdTs]
 |o::as,xs,h=>by
  simp only [vF] at h;split at h
  ·rename_i y m h1 h2
   cases h;simp only [List.map_cons,RdTs];exact⟨_,_,rfl,dX R h1,yD R h2⟩
  ·cases h
theorem RdV.toT:∀{x:V} {cs:List Value},RdV E w x cs→(x.isAgg=true∧RdT E w x (.agg cs.toArray))∨(x.isAgg=false∧∃v,cs=[v]∧RdT E w x v)
 | .int k n,cs,h=> .inr ⟨rfl,by have h':=h;simp only [RdV] at h';exact⟨_,h'.1,by simp only [RdT];rw [←h'.1];exact h⟩⟩
 | .bool k,cs,h=> .inr ⟨rfl,by have h':=h;simp only [RdV] at h';exact⟨_,h',by simp only [RdT];rw [←h'];exact h⟩⟩
 | .str k,cs,h=> .inr ⟨rfl,by have h':=h;simp only [RdV] at h';exact⟨_,h',by simp only [RdT];rw [←h'];exact h⟩⟩
 | .nilS,cs,h=> .inr ⟨rfl,by have h':=h;simp only [RdV] at h';exact⟨_,h',by simp only [RdT];rw [←h'];exact h⟩⟩
 | .agg l,cs,h=> .inl ⟨rfl,by simp only [RdT];exact⟨cs,rfl,h⟩⟩
 | .arr s l,cs,h=> .inl ⟨rfl,by simp only [RdT];exact⟨cs,rfl,h⟩⟩
 | .sl t s l,cs,h=> .inr ⟨rfl,by have h':=h;simp only [RdV] at h';obtain⟨_,_,A,c,h1,_⟩:=h';exact⟨_,h1,by simp only [RdT];rw [←h1];exact h⟩⟩
 | .own r g,cs,h=> .inr ⟨rfl,by have h':=h;simp only [RdV] at h';obtain⟨v,h1,_⟩:=h';exact⟨_,h1,by simp only [RdT];rw [←h1];exact h⟩⟩
 | .ptr r g p o,cs,h=> .inr ⟨rfl,by have h':=h;simp only [RdV] at h';obtain⟨v,h1,_⟩:=h';exact⟨_,h1,by simp only [RdT];rw [←h1];exact h⟩⟩
 | .osl r g s a b,cs,h=> .inr ⟨rfl,by have h':=h;simp only [RdV] at h';obtain⟨v,h1,_⟩:=h';exact⟨_,h1,by simp only [RdT];rw [←h1];exact h⟩⟩
 | .rp x,cs,h=> .inr ⟨rfl,by have h':=h;simp only [RdV] at h';obtain⟨_,b,o,xs,h1,_⟩:=h';exact⟨_,h1,by simp only [RdT];rw [←h1];exact h⟩⟩
 | .fn f,cs,h=> .inr ⟨rfl,by have h':=h;simp only [RdV] at h';exact⟨_,h',by simp only [RdT];rw [←h'];exact h⟩⟩
 | .lit f,cs,h=> .inr ⟨rfl,by have h':=h;simp only [RdV] at h';exact⟨_,h'.1,by simp only [RdT];rw [←h'.1];exact h⟩⟩
 | .tup l,cs,h=>by simp only [RdV] at h
 | .clo f l,cs,h=>by simp only [RdV] at h
 | .junk,cs,h=>by simp only [RdV] at h
theorem RdT.toV:∀{x:V} {v:Value},RdT E w x v→x.size≠0∨x.isAgg=true→RdV E w x v.cells.toList
 | .int k n,v,h,_=>by simp only [RdT] at h;have h':=h;simp only [RdV] at h';simp at h';obtain⟨rfl,_⟩:=h';exact h
 | .bool k,v,h,_=>by simp only [RdT] at h;have h':=h;simp only [RdV] at h';simp at h';subst h';exact h
 | .str k,v,h,_=>by simp only [RdT] at h;have h':=h;simp only [RdV] at h';simp at h';subst h';exact h
 | .nilS,v,h,_=>by simp only [RdT] at h;have h':=h;simp only [RdV] at h';simp at h';subst h';exact h
 | .agg l,v,h,_=>by simp only [RdT] at h;obtain⟨cs,rfl,h1⟩:=h;exact h1
 | .arr s l,v,h,_=>by simp only [RdT] at h;obtain⟨cs,rfl,h1⟩:=h;exact h1
 | .sl t s l,v,h,_=>by simp only [RdT] at h;have h':=h;simp only [RdV] at h';obtain⟨_,_,A,c,h1,_⟩:=h';simp at h1;subst h1;exact h
 | .own r g,v,h,_=>by
  simp only [RdT] at h;have h':=h;simp only [RdV] at h';obtain⟨u,h1,h2,_⟩:=h';simp at h1;subst h1;have:v.cells.toList=[v]:=by cases v<;>simp_all [Value.cells,Value.oneCell']
  rw [this];exact h
 | .ptr r g p o,v,h,_=>by
  simp only [RdT] at h;have h':=h;simp only [RdV] at h';obtain⟨u,h1,h2,_⟩:=h';simp at h1;subst h1;have:v.cells.toList=[v]:=by cases v<;>simp_all [Value.cells,Value.oneCell']
  rw [this];exact h
 | .osl r g s a b,v,h,_=>by
  simp only [RdT] at h;have h':=h;simp only [RdV] at h';obtain⟨u,h1,h2,_⟩:=h';simp at h1;subst h1;have:v.cells.toList=[v]:=by cases v<;>simp_all [Value.cells,Value.oneCell']
  rw [this];exact h
 | .rp x,v,h,_=>by simp only [RdT] at h;have h':=h;simp only [RdV] at h';obtain⟨_,b,o,xs,h1,_⟩:=h';simp at h1;subst h1;exact h
 | .fn f,v,h,_=>by simp only [RdT] at h;have h':=h;simp only [RdV] at h';simp at h';subst h';exact h
 | .lit f,v,h,_=>by
  simp only [RdT] at h;have h':=h;simp only [RdV] at h';obtain⟨h1,h2⟩:=h';simp at h1;subst h1;have:v.cells.toList=[v]:=by cases v<;>simp_all [Value.cells,Value.oneCell']
  rw [this];exact h
 | .tup l,v,h,hs=>by simp [V.size,V.isAgg] at hs
 | .clo f l,v,h,hs=>by simp [V.size,V.isAgg] at hs
 | .junk,v,h,hs=>by simp [V.size,V.isAgg] at hs
theorem rd_int {k:IntKind} {n:Int} {v:Value} (h:RdT E w (.int k n) v):v=.int k n∧jE k n:=by
 simp only [RdT,RdV] at h;simpa using h
theorem oC {k:IntKind} {n:Int} (h:jE k n):RdT E w (.int k n) (.int k n):=by simp only [RdT,RdV];exact⟨trivial,h⟩
theorem xca {b:Bool} {v:Value} (h:RdT E w (.bool b) v):v=.bool b:=by simp only [RdT,RdV] at h;simpa using h
theorem yY (b:Bool):RdT E w (.bool b) (.bool b):=by simp only [RdT,RdV]
theorem ycg {b:ByteArray} {v:Value} (h:RdT E w (.str b) v):v=.string b:=by simp only [RdT,RdV] at h;simpa using h
theorem Rel.cells (R:Rel cx E σ a w) {r:Nat} {o:Ob} (hr:σ.ob[r]?=some o):
  ∃u,E.ref[r]?=some (o.g,u)∧OkO cx E w o u∧(∀b,aP u=some b→∃xs,At w b 0 xs∧RdV E w o.v xs):=by
 obtain⟨u,h1,h2⟩:=R.ob r o hr;refine⟨u,h1,h2,fun b hb=>?_⟩;unfold OkO at h2;split at h2
 ·obtain⟨b',cs,rfl,k1,k2,_⟩:=h2
  simp only [aP,Option.some.injEq] at hb;subst hb;exact⟨cs,fun j v hv=>by simpa [World.cell?,k1] using hv,k2⟩
 ·obtain⟨s,l,xs,k1,k2,k3,k4,k5,k6,k7,k8⟩:=h2
  refine⟨xs,?_,by rw [k1];simp only [RdV];exact⟨k7,k3⟩⟩;rcases k6.2 with ⟨rfl,_⟩|⟨g,cap,cur,rfl,m1,m2,m3,m4,m5,m6⟩
  ·simp [aP] at hb
  ·simp only [aP,Option.some.injEq] at hb
   subst hb;intro j v hv;rw [←m6,List.getElem?_take] at hv;split at hv
   ·simpa [World.cell?,m2] using hv
   ·cases hv
 ·obtain⟨k0,s,l,xs,k1,k3,k4,k5,k6,k7,k8⟩:=h2
  refine⟨xs,?_,by rw [k1];simp only [RdV];exact⟨k7,k3⟩⟩;rcases k6.2 with ⟨rfl,_⟩|⟨g,cap,cur,rfl,m1,m2,m3,m4,m5,m6⟩
  ·simp [aP] at hb
  ·simp only [aP,Option.some.injEq] at hb
   subst hb;intro j v hv;rw [←m6,List.getElem?_take] at hv;split at hv
   ·simpa [World.cell?,m2] using hv
   ·cases hv
theorem xmz {x:V} {v:Value} (h:RdT E w (.rp x) v):x.pure=true∧∃b o xs,v=.pointer (some ⟨b,o,none⟩)∧E.B b∧RdV E w x xs∧At w b o xs:=by
 simp only [RdT,RdV] at h;obtain⟨h1,b,o,xs,h2,h3,h4,h5⟩:=h;exact⟨h1,b,o,xs,by simpa using h2,h3,h4,h5⟩
theorem xj9 {x:V} {b o:Nat} {xs:List Value} (h1:x.pure=true) (h3:E.B b) (h4:RdV E w x xs) (h5:At w b o xs):RdT E w (.rp x) (.pointer (some ⟨b,o,none⟩)):=by
 simp only [RdT,RdV];exact⟨h1,b,o,xs,rfl,h3,h4,h5⟩
theorem yb8 {r g:Nat} (h:(oN σ r g).2):∃o,σ.ob[r]?=some o∧o.g=g∧(oN σ r g).1=o.v:=by
 unfold oN at h⊢;cases ho:σ.ob[r]? with
 |none=>rw [ho] at h;exact h.elim
 |some o=>rw [ho] at h;exact⟨o,rfl,h,rfl⟩
theorem xn4 {r g:Nat} (h:(bT σ r g).2.2):∃e lv s l,σ.ob[r]?=some ⟨.row e,lv,g,.arr s l⟩∧(bT σ r g).1=s∧(bT σ r g).2.1=l:=by
 unfold bT at h⊢;split at h
 ·rename_i e lv g' s l ho
  subst h;exact⟨e,lv,s,l,ho,by simp,by simp⟩
 ·exact h.elim
theorem xeb (R:Rel cx E σ a w) {r g:Nat} {v:Value} (h:RdT E w (.own r g) v) (hg:(bT σ r g).2.2):
  ∃e lv s l xs,σ.ob[r]?=some ⟨.row e,lv,g,.arr s l⟩∧(bT σ r g).1=s∧(bT σ r g).2.1=l∧E.ref[r]?=some (g,v)∧V.pures l=true∧Unif s l∧0<s∧l.length≤140737488355328∧
   w.ownsRow cx.W.heap.size e s v l.length xs∧RdL E w l xs∧(∀b,aP v=some b→if lv then ¬E.B b else E.B b):=by
 obtain⟨e,lv,s,l,h1,h2,h3⟩:=xn4 hg;obtain⟨u,k1,k2,_⟩:=R.cells h1;simp only [RdT,RdV] at h;obtain⟨v',m1,_,_,m4⟩:=h;simp at m1;subst m1;obtain rfl:=(m4 g u k1).2 rfl;unfold OkO at k2;obtain⟨s',l',xs,q1,q2,q3,q4,q5,q6,q7,q8⟩:=k2;injection q1 with q1 q1'
 subst q1 q1';exact⟨e,lv,s,l,xs,h1,h2,h3,k1,q2,q3,q4,q5,q6,q7,q8⟩
theorem xec (R:Rel cx E σ a w) {r g:Nat} {v:Value} (h:RdT E w (.own r g) v) (hg:(gG σ r g).2.2):
  ∃k e lv s l xs,σ.ob[r]?=some ⟨k,lv,g,.arr s l⟩∧(k=.row e∧V.pures l=true∨(∃q,k=.rows q e)∧lv=true)∧(gG σ r g).1=s∧(gG σ r g).2.1=l∧E.ref[r]?=some (g,v)∧Unif s l∧0<s∧l.length≤140737488355328∧
   w.ownsRow (k.base cx.W.heap.size) e s v l.length xs∧RdL E w l xs∧(∀b,aP v=some b→if lv then ¬E.B b else E.B b):=by
 simp only [RdT,RdV] at h;obtain⟨v',m1,_,_,m4⟩:=h;simp at m1;subst m1;unfold gG at hg⊢;split at hg
 ·rename_i e lv g' s l ho
  subst hg;obtain⟨u,k1,k2,_⟩:=R.cells ho;obtain rfl:=(m4 _ u k1).2 rfl;unfold OkO at k2;obtain⟨s',l',xs,q1,q2,q3,q4,q5,q6,q7,q8⟩:=k2;injection q1 with q1 q1'
  subst q1 q1';exact⟨.row e,e,lv,s,l,xs,ho,.inl ⟨rfl,q2⟩,rfl,rfl,k1,q3,q4,q5,q6,q7,q8⟩
 ·rename_i qq e lv g' s l ho
  subst hg;obtain⟨u,k1,k2,_⟩:=R.cells ho;obtain rfl:=(m4 _ u k1).2 rfl;unfold OkO at k2;obtain⟨q0,s',l',xs,q1,q3,q4,q5,q6,q7,q8⟩:=k2;injection q1 with q1 q1'
  subst q1 q1';have q0:lv=true:=q0;subst q0;exact⟨.rows qq e,e,true,s,l,xs,ho,.inr ⟨⟨qq,rfl⟩,rfl⟩,rfl,rfl,k1,q3,q4,q5,q6,q7,fun b hb=>by rw [if_pos rfl];exact(q8 b hb).1⟩
 ·exact hg.elim
theorem xfg (R:Rel cx E σ a w) {r g o:Nat} {p:List Nat} {v:Value} (h:RdT E w (.ptr r g p o) v) (hg:(oN σ r g).2):
  ∃ob u b xs,σ.ob[r]?=some ob∧ob.g=g∧(oN σ r g).1=ob.v∧E.ref[r]?=some (g,u)∧OkO cx E w ob u∧aP u=some b∧v=.pointer (some ⟨b,o,none⟩)∧At w b 0 xs∧RdV E w ob.v xs:=by
 obtain⟨ob,h1,h2,h3⟩:=yb8 hg;obtain⟨u,k1,k2,k3⟩:=R.cells h1;simp only [RdT,RdV] at h;obtain⟨v',m1,m2,m3,m4⟩:=h;simp at m1;subst m1;rw [h2] at k1;obtain⟨b,q1,q2⟩:=(m4 g u k1).2 rfl;obtain⟨xs,q3,q4⟩:=k3 b q1;exact⟨ob,u,b,xs,h1,h2,h3,k1,k2,q1,q2,q3,q4⟩
theorem xj8 {r g g' o:Nat} {p:List Nat} {b:Nat} {u:Value} (hu:E.ref[r]?=some (g,u)) (hb:aP u=some b):RdT E w (.ptr r g p o) (.pointer (some ⟨b,o,none⟩)):=by
 simp only [RdT,RdV];refine⟨_,rfl,rfl,(List.getElem?_eq_some_iff.1 hu).1,fun gc u' h=>?_⟩;rw [hu] at h;injection h with h
 injection h with h1 h2
 subst h1 h2;exact⟨Nat.le_refl _,fun _=>⟨b,hb,rfl⟩⟩
theorem yd7 {T:TypeId} {d:TypeDesc} {i:TypeInfo} (hd:P.underlying T=some d) (hi:P.info? T=some i) {b o:Nat} {x:V} {xs:List Value} (ha:At w b o xs) (hx:RdV E w x xs) (hs:x.size=i.size) (hag:x.isAgg=tN d):
  ∃v,(Instr.loadAt T (.pointer (some ⟨b,o,none⟩))).run P w=.ok v w∧RdT E w x v:=by
 have hl:=hx.len;rcases hx.toT with ⟨h1,h2⟩|⟨h1,v,rfl,h2⟩
 ·refine⟨_,run_loadAt_mid w b o T xs d ha hd ?_ (by simp [hi,hl,hs]),h2⟩
  rw [h1] at hag
  revert hag
  cases d<;>simp [tN]
 ·refine⟨v,?_,h2⟩
  rw [h1] at hag;have hagg:(isAgg T).run P w=.ok false w:=by
   unfold isAgg;rw [Sem.run_bind,run_underlying hd w]
   revert hag
   cases d<;>simp [tN]
  have hc:w.cell? ⟨b,o,none⟩=some v:=ha.c0;simp [Instr.loadAt,Instr.sureAddr,loadVar,hagg,run_load,hc]
end
end Rdn.Dp
