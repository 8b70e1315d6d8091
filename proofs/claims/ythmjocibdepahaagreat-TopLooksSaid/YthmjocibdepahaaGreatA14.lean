import Derived.Test.YthmjocibdepahaaGreatA13
set_option linter.defProp false
set_option linter.unusedSimpArgs false
set_option linter.unusedVariables false
set_option maxHeartbeats 64000000
set_option maxRecDepth 100000
namespace Go.Proofs.YthmjocibdepahaaGreat
open Go Go.RowKit Rdn Rdn.Dp
def setF (o:Rdn.Outside) (f:Files):Rdn.Outside:=⟨o.clock,o.random,o.inputs,f,o.outputs⟩
def lM (c:Canon) (d:List Canon) (ok:Bool):Rdn.Result:=if ok=true then sF c d else zY
theorem uF (c:Canon) (d:List Canon):lM c d true=sF c d:=rfl
theorem oP (c:Canon) (d:List Canon):lM c d false=zY:=rfl
def fA (o:Rdn.Outside) (q:Request):Rdn.Outside×Rdn.Result:=
 if q.call=1 then(setF o (nM o.files q.args[0]!.val q.data).1,lM (nH (nM o.files q.args[0]!.val q.data).2.1) [] ((nM o.files q.args[0]!.val q.data).2.2))
 else if q.call=2 then(setF o (kR o.files q.args[0]!.val q.args[2]!.val).1,lM (nH (kR o.files q.args[0]!.val q.args[2]!.val).2.1.length) (kR o.files q.args[0]!.val q.args[2]!.val).2.1 ((kR o.files q.args[0]!.val q.args[2]!.val).2.2))
 else if q.call=3 then(setF o (oQ o.files q.args[0]!.val q.args[1]!.val).1,lM (⟨2,IntKind.u16.wrap (oQ o.files q.args[0]!.val q.args[1]!.val).2,0,0⟩) [] (decide ((0:Int)≤(oQ o.files q.args[0]!.val q.args[1]!.val).2)))
 else if q.call=4 then(setF o (tH o.files q.args[0]!.val).1,lM (⟨0,0,0,0⟩) [] ((tH o.files q.args[0]!.val).2))
 else if q.call=5 then(setF o (sH o.files q.args[0]!.val q.args[1]!.val).1,lM (⟨0,0,0,0⟩) [] ((sH o.files q.args[0]!.val q.args[1]!.val).2))
 else if q.call=6 then(⟨(pR o.clock).1,o.random,o.inputs,o.files,o.outputs⟩,lM ((pR o.clock).2.1) [] ((pR o.clock).2.2))
 else if q.call=7 then(⟨o.clock,(pR o.random).1,o.inputs,o.files,o.outputs⟩,lM ((pR o.random).2.1) [] ((pR o.random).2.2))
 else if q.call=13 then(⟨o.clock,o.random,o.inputs,o.files,(jS o.outputs q.args[0]!.val q.data).1⟩,lM (nH (jS o.outputs q.args[0]!.val q.data).2.1) [] ((jS o.outputs q.args[0]!.val q.data).2.2))
 else if q.call=14 then(⟨o.clock,o.random,(jY o.inputs q.args[0]!.val q.args[2]!.val).1,o.files,o.outputs⟩,lM (nH (jY o.inputs q.args[0]!.val q.args[2]!.val).2.1.length) (jY o.inputs q.args[0]!.val q.args[2]!.val).2.1 ((jY o.inputs q.args[0]!.val q.args[2]!.val).2.2))
 else(o,zY)
theorem xvd {o:Rdn.Outside} {q:Request} (c:q.call=1):fA o q=(setF o (nM o.files q.args[0]!.val q.data).1,lM (nH (nM o.files q.args[0]!.val q.data).2.1) [] ((nM o.files q.args[0]!.val q.data).2.2)):=by
 unfold fA;rw [if_pos c]
theorem xvg {o:Rdn.Outside} {q:Request} (c:q.call=2):fA o q=(setF o (kR o.files q.args[0]!.val q.args[2]!.val).1,lM (nH (kR o.files q.args[0]!.val q.args[2]!.val).2.1.length) (kR o.files q.args[0]!.val q.args[2]!.val).2.1 ((kR o.files q.args[0]!.val q.args[2]!.val).2.2)):=by
 unfold fA;rw [if_neg ω,if_pos c]
theorem xvh {o:Rdn.Outside} {q:Request} (c:q.call=3):fA o q=(setF o (oQ o.files q.args[0]!.val q.args[1]!.val).1,lM (⟨2,IntKind.u16.wrap (oQ o.files q.args[0]!.val q.args[1]!.val).2,0,0⟩) [] (decide ((0:Int)≤(oQ o.files q.args[0]!.val q.args[1]!.val).2))):=by
 unfold fA;rw [if_neg ω,if_neg ω,if_pos c]
theorem xvi {o:Rdn.Outside} {q:Request} (c:q.call=4):fA o q=(setF o (tH o.files q.args[0]!.val).1,lM (⟨0,0,0,0⟩) [] ((tH o.files q.args[0]!.val).2)):=by
 unfold fA;rw [if_neg ω,if_neg ω,if_neg ω,if_pos c]
theorem xvj {o:Rdn.Outside} {q:Request} (c:q.call=5):fA o q=(setF o (sH o.files q.args[0]!.val q.args[1]!.val).1,lM (⟨0,0,0,0⟩) [] ((sH o.files q.args[0]!.val q.args[1]!.val).2)):=by
 unfold fA;rw [if_neg ω,if_neg ω,if_neg ω,if_neg ω,if_pos c]
theorem xvk {o:Rdn.Outside} {q:Request} (c:q.call=6):fA o q=(⟨(pR o.clock).1,o.random,o.inputs,o.files,o.outputs⟩,lM ((pR o.clock).2.1) [] ((pR o.clock).2.2)):=by
 unfold fA;rw [if_neg ω,if_neg ω,if_neg ω,if_neg ω,if_neg ω,if_pos c]
theorem xvl {o:Rdn.Outside} {q:Request} (c:q.call=7):fA o q=(⟨o.clock,(pR o.random).1,o.inputs,o.files,o.outputs⟩,lM ((pR o.random).2.1) [] ((pR o.random).2.2)):=by
 unfold fA;rw [if_neg ω,if_neg ω,if_neg ω,if_neg ω,if_neg ω,if_neg ω,if_pos c]
theorem xve {o:Rdn.Outside} {q:Request} (c:q.call=13):fA o q=(⟨o.clock,o.random,o.inputs,o.files,(jS o.outputs q.args[0]!.val q.data).1⟩,lM (nH (jS o.outputs q.args[0]!.val q.data).2.1) [] ((jS o.outputs q.args[0]!.val q.data).2.2)):=by
 unfold fA;rw [if_neg ω,if_neg ω,if_neg ω,if_neg ω,if_neg ω,if_neg ω,if_neg ω,if_pos c]
theorem xvf {o:Rdn.Outside} {q:Request} (c:q.call=14):fA o q=(⟨o.clock,o.random,(jY o.inputs q.args[0]!.val q.args[2]!.val).1,o.files,o.outputs⟩,lM (nH (jY o.inputs q.args[0]!.val q.args[2]!.val).2.1.length) (jY o.inputs q.args[0]!.val q.args[2]!.val).2.1 ((jY o.inputs q.args[0]!.val q.args[2]!.val).2.2)):=by
 unfold fA;rw [if_neg ω,if_neg ω,if_neg ω,if_neg ω,if_neg ω,if_neg ω,if_neg ω,if_neg ω,if_pos c]
def yxo (q:Request):Prop:=∀i,i<q.args.length→0≤q.args[i]!.val∧q.args[i]!.val≤65535
theorem xbl {q:Request} (h:mY q=true):q.args.length=(kl q.call).length:=by
 unfold mY xE at h;simp only [Bool.and_eq_true,decide_eq_true_eq] at h;rw [h.2.1,yej]
theorem xao {q:Request} (h:mY q=true):FitQ q∧q.stop=1:=by
 unfold mY at h;simp only [Bool.and_eq_true,decide_eq_true_eq] at h;exact⟨yf4 h.1.1,h.1.2⟩
theorem xwh {q:Request} (F:FitQ q):q.data.length≤16:=by
 have:=F.data;unfold fD at this;simp only [Bool.and_eq_true,decide_eq_true_eq] at this;omega
theorem xd3 {q:Request} (hw:(eP q).wf):yxo q:=fun k hk=>by
 simp only [V.wf,V.wfs,lW] at hw;have:=hw.2.2.2.2.2.2.1.1 _ (kE hk);exact xbu this.2.1
attribute [local irreducible] nM kR oQ tH sH jS jY pR kl mY
end Go.Proofs.YthmjocibdepahaaGreat
namespace Go.Proofs.YthmjocibdepahaaGreat
open Go Go.RowKit Rdn Rdn.Dp
def xm0:=aC 201
def fZ:=zcs 203
theorem yB {Q R:Prop} (r:R) (h:Zb R→Q:=by
 intro zr;refine ret zr.h [] ?_;(first|(simp only [go_sem];done)|(simp only [go_sem];((try dsimp only);(repeat' (refine And.intro ?_ ?_))<;>first|with_reducible rfl|(simp only [go_sem];done)|(simp only [go_sem];rfl)|(simp only [go_sem,sF,zY,setF];done)|(simp only [sF,zY,setF];(try simp only [go_sem]);first|done|rfl)|(simp only [go_sem];simp [sF,zY,setF];done)|(simp [sF,zY,setF];done)|rfl)))):Q:=h ⟨r⟩
theorem zre {Q R:Prop} (r:R) (h:Zb R→Q:=by
 intro zr;refine ret zr.h [] ?_;(first|(simp only [go_sem];done)|(simp only [go_sem];((try dsimp only);(repeat' (refine And.intro ?_ ?_))<;>first|with_reducible rfl|(simp only [go_sem];done)|(simp only [go_sem];rfl)|(simp only [go_sem,sF,zY];done)|(simp only [sF,zY];(try simp only [go_sem]);first|done|rfl)|(simp only [go_sem];simp [sF,zY];done)|(simp [sF,zY];done)|rfl)))):Q:=h ⟨r⟩
theorem zrf {Q R:Prop} (r:R) (h:Zb R→Q:=by
 intro zr;refine ret zr.h [] ?_;(first|(simp only [go_sem];done)|(simp only [go_sem];((try dsimp only);(repeat' (refine And.intro ?_ ?_))<;>first|with_reducible rfl|(simp only [go_sem];done)|(simp only [go_sem];rfl)|(simp only [go_sem,sF];done)|(simp only [sF];(try simp only [go_sem]);first|done|rfl)|(simp only [go_sem];simp [sF];done)|(simp [sF];done)|rfl)))):Q:=h ⟨r⟩
theorem jB (n:Int) (ok:Bool):Fnc Tryz.prog 201 [.int .i64 n,.bool ok] (fun x obs=>x=eX (lM (nH n) [] ok)∧obs=[]):=by
 refine Fnc.low ?_;cases ok with
 |true=>
  rw [uF];refine aI xm0 fun W S=>?_;refine vI 0 (.agg [_,.sl false 4 [],_,_]) rfl (SubV.agg ⟨SubV.refl _,SubV.nil _ _,SubV.refl _,SubV.refl _,trivial⟩) rfl ?_;refine ret xm0 [] ?_;(first|(simp only [go_sem];done)|(simp only [go_sem];((try dsimp only);(repeat' (refine And.intro ?_ ?_))<;>first|with_reducible rfl|(simp only [go_sem];done)|(simp only [go_sem];rfl)|(simp only [go_sem,sF,nH];done)|(simp only [sF,nH];(try simp only [go_sem]);first|done|rfl)|(simp only [go_sem];simp [sF,nH];done)|(simp [sF,nH];done)|rfl)))
 |false=>
  rw [oP];refine aI xm0 fun W S=>?_;refine vI 0 (.agg [_,.sl false 4 [],_,_]) rfl (SubV.agg ⟨SubV.refl _,SubV.nil _ _,SubV.refl _,SubV.refl _,trivial⟩) rfl ?_;exact zre xm0
theorem xcj {q:Request} (h:mY q=true):xE (kl q.call) (uG q)=true:=by
 unfold mY at h;simp only [Bool.and_eq_true] at h;exact h.2
theorem yu1 {f:Files} {h n:Int} (e:(kR f h n).2.2=false):(kR f h n).2.1=[]:=by
 unfold kR at e⊢;split at e
 ·cases e
 ·rw [if_neg (by assumption)]
theorem yu5 {l:List (List Int)} {s n:Int} (e:(jY l s n).2.2=false):(jY l s n).2.1=[]:=by
 unfold jY at e⊢;split at e
 ·rw [if_pos (by assumption)]
 ·cases e
attribute [local irreducible] nM kR oQ tH sH jS jY kl mY xai xE uG
attribute [local go_sem] xnk xkn
theorem kU {A0 P Q:Prop} (a0:A0) (k:P) (h:Zb A0→Zb P→Q:=by
 intro z0 zk;(first|refine xdl z0.h ?_|refine xdn z0.h ?_);simp only [go_sem,zY,sF];exact zk.h):Q:=h ⟨a0⟩ ⟨k⟩
theorem ysf (o:Rdn.Outside) (q:Request) (F:FitO o) (A:mY q=true) (c:q.call=1):Fnc Tryz.prog 203 [jO o,eP q] (fun x obs=>x=.tup [jO (fA o q).1,eX (fA o q).2,.int .i64 0]∧obs=[]):=by
 refine Fnc.low (Fnc.wf fun hw=>?_);have hwd:=xd3 hw.2.1;clear hw;have hl:=xbl A;rw [show(kl q.call).length=3 by rw [c];unfold kl;rfl] at hl;rw [xvd c];have fv:=xbe o;rw [xah F] at fv;obtain⟨FQ,hst⟩:=xao A;have fa:=xbf q;rw [xaj FQ] at fa;have fx:=xc9 q.call;rw [show sO q.call=true by rw [c];rfl] at fx;have fkk:=xcc q ω;rw [xcj A] at fkk;have fb:=xO q.call ω ω;rw [show iO q.call=1 by rw [c];rfl] at fb;have fc:=xcd o F;have f00:=jB 0 false;rw [oP] at f00;have w0:=hwd 0 ω;have v0:IntKind.i64.wrap q.args[0]!.val=q.args[0]!.val:=bW ω ω;have w1:=hwd 1 ω;have v1:IntKind.i64.wrap q.args[1]!.val=q.args[1]!.val:=bW ω ω;have w2:=hwd 2 ω;have v2:IntKind.i64.wrap q.args[2]!.val=q.args[2]!.val:=bW ω ω;have hd0:=xwh FQ;have hd:q.data.length≤100000:=ω;have fw:=yto o.files F.f q.args[0]!.val q.data hd;generalize hr:nM o.files q.args[0]!.val q.data=r at fw⊢;cases e:r.2.2 with
 |true=>
  rw [uF];rw [e] at fw;have fz:=jB r.2.1 true;rw [uF] at fz;refine uI fZ fv fa fx fkk fb fc fun W S=>?_;refine fU 4 ?_;refine aY (And.intro v0 (And.intro v1 (v2))) ?_;refine kU (f00) ?_;refine aA ?_;refine aF (fw) ?_;refine kU (fz) ?_;refine aA ?_;exact yB fZ
 |false=>
  rw [oP];rw [e] at fw;have fz:=jB r.2.1 false;rw [oP] at fz;refine uI fZ fv fa fx fkk fb fc fun W S=>?_;refine fU 4 ?_;refine aY (And.intro v0 (And.intro v1 (v2))) ?_;refine kU (f00) ?_;refine aA ?_;refine aF (fw) ?_;refine kU (fz) ?_;refine aA ?_;exact yB fZ
theorem ysg (o:Rdn.Outside) (q:Request) (F:FitO o) (A:mY q=true) (c:q.call=2) (h16:q.args[2]!.val≤16):Fnc Tryz.prog 203 [jO o,eP q] (fun x obs=>x=.tup [jO (fA o q).1,eX (fA o q).2,.int .i64 0]∧obs=[]):=by
 refine Fnc.low (Fnc.wf fun hw=>?_);have hwd:=xd3 hw.2.1;clear hw;have hl:=xbl A;rw [show(kl q.call).length=3 by rw [c];unfold kl;rfl] at hl;rw [xvg c];have fv:=xbe o;rw [xah F] at fv;obtain⟨FQ,hst⟩:=xao A;have fa:=xbf q;rw [xaj FQ] at fa;have fx:=xc9 q.call;rw [show sO q.call=true by rw [c];rfl] at fx;have fkk:=xcc q ω;rw [xcj A] at fkk;have fb:=xO q.call ω ω;rw [show iO q.call=2 by rw [c];rfl] at fb;have fc:=xcd o F;have f00:=jB 0 false;rw [oP] at f00;have w0:=hwd 0 ω;have v0:IntKind.i64.wrap q.args[0]!.val=q.args[0]!.val:=bW ω ω;have w1:=hwd 1 ω;have v1:IntKind.i64.wrap q.args[1]!.val=q.args[1]!.val:=bW ω ω;have w2:=hwd 2 ω;have v2:IntKind.i64.wrap q.args[2]!.val=q.args[2]!.val:=bW ω ω;have fw:=yt9 o.files F.f q.args[0]!.val q.args[2]!.val;have hno:(kR o.files q.args[0]!.val q.args[2]!.val).2.2=false→(kR o.files q.args[0]!.val q.args[2]!.val).2.1=[]:=yu1;generalize hr:kR o.files q.args[0]!.val q.args[2]!.val=r at fw hno⊢;cases e:r.2.2 with
 |true=>
  rw [uF];rw [e] at fw;have fz:=jB (r.2.1.length:Int) true;rw [uF] at fz;refine uI fZ fv fa fx fkk fb fc fun W S=>?_;refine fU 4 ?_;refine aY (And.intro v0 (And.intro v1 (v2))) ?_;refine kU (f00) ?_;refine aA ?_;refine aF (fw) ?_;refine kU (fz) ?_;refine aA ?_;exact yB fZ
 |false=>
  rw [oP];rw [e] at fw;have fz:=jB (r.2.1.length:Int) false;rw [oP] at fz;rw [hno e] at fw;rw [hno e] at fz;refine uI fZ fv fa fx fkk fb fc fun W S=>?_;refine fU 4 ?_;refine aY (And.intro v0 (And.intro v1 (v2))) ?_;refine kU (f00) ?_;refine aA ?_;refine aF (fw) ?_;refine kU (fz) ?_;refine aA ?_;exact yB fZ
theorem ysh (o:Rdn.Outside) (q:Request) (F:FitO o) (A:mY q=true) (c:q.call=3):Fnc Tryz.prog 203 [jO o,eP q] (fun x obs=>x=.tup [jO (fA o q).1,eX (fA o q).2,.int .i64 0]∧obs=[]):=by
 refine Fnc.low (Fnc.wf fun hw=>?_);have hwd:=xd3 hw.2.1;clear hw;have hl:=xbl A;rw [show(kl q.call).length=2 by rw [c];unfold kl;rfl] at hl;rw [xvh c];have fv:=xbe o;rw [xah F] at fv;obtain⟨FQ,hst⟩:=xao A;have fa:=xbf q;rw [xaj FQ] at fa;have fx:=xc9 q.call;rw [show sO q.call=true by rw [c];rfl] at fx;have fkk:=xcc q ω;rw [xcj A] at fkk;have fb:=xO q.call ω ω;rw [show iO q.call=0 by rw [c];rfl] at fb;have fc:=xcd o F;have f00:=jB 0 false;rw [oP] at f00;have w0:=hwd 0 ω;have v0:IntKind.i64.wrap q.args[0]!.val=q.args[0]!.val:=bW ω ω;have w1:=hwd 1 ω;have v1:IntKind.i64.wrap q.args[1]!.val=q.args[1]!.val:=bW ω ω;have fw:=ytb o.files F.f q.args[0]!.val q.args[1]!.val;generalize hr:oQ o.files q.args[0]!.val q.args[1]!.val=r at fw⊢;by_cases e:0≤r.2
 ·rw [aN e,uF]
  refine uI fZ fv fa fx fkk fb fc fun W S=>?_;refine fU 3 ?_;refine aY (And.intro v0 (v1)) ?_;refine kU (f00) ?_;refine aA ?_;refine aF (fw) ?_;exact yB fZ
 ·rw [aJ e,oP]
  refine uI fZ fv fa fx fkk fb fc fun W S=>?_;refine fU 3 ?_;refine aY (And.intro v0 (v1)) ?_;refine kU (f00) ?_;refine aA ?_;refine aF (fw) ?_;exact yB fZ
theorem ysi (o:Rdn.Outside) (q:Request) (F:FitO o) (A:mY q=true) (c:q.call=4):Fnc Tryz.prog 203 [jO o,eP q] (fun x obs=>x=.tup [jO (fA o q).1,eX (fA o q).2,.int .i64 0]∧obs=[]):=by
 refine Fnc.low (Fnc.wf fun hw=>?_);have hwd:=xd3 hw.2.1;clear hw;have hl:=xbl A;rw [show(kl q.call).length=1 by rw [c];unfold kl;rfl] at hl;rw [xvi c];have fv:=xbe o;rw [xah F] at fv;obtain⟨FQ,hst⟩:=xao A;have fa:=xbf q;rw [xaj FQ] at fa;have fx:=xc9 q.call;rw [show sO q.call=true by rw [c];rfl] at fx;have fkk:=xcc q ω;rw [xcj A] at fkk;have fb:=xO q.call ω ω;rw [show iO q.call=0 by rw [c];rfl] at fb;have fc:=xcd o F;have f00:=jB 0 false;rw [oP] at f00;have w0:=hwd 0 ω;have v0:IntKind.i64.wrap q.args[0]!.val=q.args[0]!.val:=bW ω ω;have fw:=ysa o.files F.f q.args[0]!.val;generalize hr:tH o.files q.args[0]!.val=r at fw⊢;cases e:r.2 with
 |true=>
  rw [uF];rw [e] at fw;have fz:=jB (0:Int) true;rw [uF] at fz;rw [yb1] at fz;refine uI fZ fv fa fx fkk fb fc fun W S=>?_;refine fU 2 ?_;refine aY v0 ?_;refine kU (f00) ?_;refine aA ?_;refine aF (fw) ?_;refine kU (fz) ?_;refine aA ?_;exact yB fZ
 |false=>
  rw [oP];rw [e] at fw;have fz:=jB (0:Int) false;rw [oP] at fz;refine uI fZ fv fa fx fkk fb fc fun W S=>?_;refine fU 2 ?_;refine aY v0 ?_;refine kU (f00) ?_;refine aA ?_;refine aF (fw) ?_;refine kU (fz) ?_;refine aA ?_;exact yB fZ
theorem ysj (o:Rdn.Outside) (q:Request) (F:FitO o) (A:mY q=true) (c:q.call=5):Fnc Tryz.prog 203 [jO o,eP q] (fun x obs=>x=.tup [jO (fA o q).1,eX (fA o q).2,.int .i64 0]∧obs=[]):=by
 refine Fnc.low (Fnc.wf fun hw=>?_);have hwd:=xd3 hw.2.1;clear hw;have hl:=xbl A;rw [show(kl q.call).length=2 by rw [c];unfold kl;rfl] at hl;rw [xvj c];have fv:=xbe o;rw [xah F] at fv;obtain⟨FQ,hst⟩:=xao A;have fa:=xbf q;rw [xaj FQ] at fa;have fx:=xc9 q.call;rw [show sO q.call=true by rw [c];rfl] at fx;have fkk:=xcc q ω;rw [xcj A] at fkk;have fb:=xO q.call ω ω;rw [show iO q.call=0 by rw [c];rfl] at fb;have fc:=xcd o F;have f00:=jB 0 false;rw [oP] at f00;have w0:=hwd 0 ω;have v0:IntKind.i64.wrap q.args[0]!.val=q.args[0]!.val:=bW ω ω;have w1:=hwd 1 ω;have v1:IntKind.i64.wrap q.args[1]!.val=q.args[1]!.val:=bW ω ω;have fw:=ytc o.files F.f q.args[0]!.val q.args[1]!.val;generalize hr:sH o.files q.args[0]!.val q.args[1]!.val=r at fw⊢;cases e:r.2 with
 |true=>
  rw [uF];rw [e] at fw;have fz:=jB (0:Int) true;rw [uF] at fz;rw [yb1] at fz;refine uI fZ fv fa fx fkk fb fc fun W S=>?_;refine fU 3 ?_;refine aY (And.intro v0 (v1)) ?_;refine kU (f00) ?_;refine aA ?_;refine aF (fw) ?_;refine kU (fz) ?_;refine aA ?_;exact yB fZ
 |false=>
  rw [oP];rw [e] at fw;have fz:=jB (0:Int) false;rw [oP] at fz;refine uI fZ fv fa fx fkk fb fc fun W S=>?_;refine fU 3 ?_;refine aY (And.intro v0 (v1)) ?_;refine kU (f00) ?_;refine aA ?_;refine aF (fw) ?_;refine kU (fz) ?_;refine aA ?_;exact yB fZ
theorem ysk (o:Rdn.Outside) (q:Request) (F:FitO o) (A:mY q=true) (c:q.call=6):Fnc Tryz.prog 203 [jO o,eP q] (fun x obs=>x=.tup [jO (fA o q).1,eX (fA o q).2,.int .i64 0]∧obs=[]):=by
 refine Fnc.low (Fnc.wf fun hw=>?_);have hwd:=xd3 hw.2.1;have hm:∀k,k<o.clock.length→0≤o.clock[k]!∧o.clock[k]!≤65535:=fun k hk=>by
  have:=hw.1;simp only [V.wf,V.wfs,lW] at this;exact xbu (this.1.1 _ (kE hk))
 clear hw;have hl:=xbl A;rw [show(kl q.call).length=0 by rw [c];unfold kl;rfl] at hl;rw [xvk c];have fv:=xbe o;rw [xah F] at fv;obtain⟨FQ,hst⟩:=xao A;have fa:=xbf q;rw [xaj FQ] at fa;have fx:=xc9 q.call;rw [show sO q.call=true by rw [c];rfl] at fx;have fkk:=xcc q ω;rw [xcj A] at fkk;have fb:=xO q.call ω ω;rw [show iO q.call=0 by rw [c];rfl] at fb;have fc:=xcd o F;have f00:=jB 0 false;rw [oP] at f00;by_cases e:o.clock.length=0
 ·rw [ydd e,oP]
  refine uI fZ fv fa fx fkk fb fc fun W S=>?_;refine fU 1 ?_;refine aA ?_;refine kU (f00) ?_;refine aA ?_;exact zre fZ
 ·obtain⟨z1,z2⟩:=hm 0 ω
  have z3:IntKind.i64.wrap o.clock[0]! =o.clock[0]!:=bW ω ω;have z4:IntKind.u16.wrap o.clock[0]! =o.clock[0]!:=xtd z1 z2;rw [ydc e,uF];have fw:=jB o.clock[0]! true;rw [uF,show nH o.clock[0]! =⟨0,o.clock[0]!,0,0⟩ by unfold nH;rw [z4]] at fw;refine uI fZ fv fa fx fkk fb fc fun W S=>?_;refine fU 1 ?_;refine aA ?_;refine kU (f00) ?_;refine aA ?_;refine aY z3 ?_;refine kU (fw) ?_;refine aA ?_;exact zrf fZ
theorem ysl (o:Rdn.Outside) (q:Request) (F:FitO o) (A:mY q=true) (c:q.call=7):Fnc Tryz.prog 203 [jO o,eP q] (fun x obs=>x=.tup [jO (fA o q).1,eX (fA o q).2,.int .i64 0]∧obs=[]):=by
 refine Fnc.low (Fnc.wf fun hw=>?_);have hwd:=xd3 hw.2.1;have hm:∀k,k<o.random.length→0≤o.random[k]!∧o.random[k]!≤65535:=fun k hk=>by
  have:=hw.1;simp only [V.wf,V.wfs,lW] at this;exact xbu (this.2.1.1 _ (kE hk))
 clear hw;have hl:=xbl A;rw [show(kl q.call).length=0 by rw [c];unfold kl;rfl] at hl;rw [xvl c];have fv:=xbe o;rw [xah F] at fv;obtain⟨FQ,hst⟩:=xao A;have fa:=xbf q;rw [xaj FQ] at fa;have fx:=xc9 q.call;rw [show sO q.call=true by rw [c];rfl] at fx;have fkk:=xcc q ω;rw [xcj A] at fkk;have fb:=xO q.call ω ω;rw [show iO q.call=0 by rw [c];rfl] at fb;have fc:=xcd o F;have f00:=jB 0 false;rw [oP] at f00;by_cases e:o.random.length=0
 ·rw [ydd e,oP]
  refine uI fZ fv fa fx fkk fb fc fun W S=>?_;refine fU 1 ?_;refine aA ?_;refine kU (f00) ?_;refine aA ?_;exact zre fZ
 ·obtain⟨z1,z2⟩:=hm 0 ω
  have z3:IntKind.i64.wrap o.random[0]! =o.random[0]!:=bW ω ω;have z4:IntKind.u16.wrap o.random[0]! =o.random[0]!:=xtd z1 z2;rw [ydc e,uF];have fw:=jB o.random[0]! true;rw [uF,show nH o.random[0]! =⟨0,o.random[0]!,0,0⟩ by unfold nH;rw [z4]] at fw;refine uI fZ fv fa fx fkk fb fc fun W S=>?_;refine fU 1 ?_;refine aA ?_;refine kU (f00) ?_;refine aA ?_;refine aY z3 ?_;refine kU (fw) ?_;refine aA ?_;exact zrf fZ
theorem ysd (o:Rdn.Outside) (q:Request) (F:FitO o) (A:mY q=true) (c:q.call=13):Fnc Tryz.prog 203 [jO o,eP q] (fun x obs=>x=.tup [jO (fA o q).1,eX (fA o q).2,.int .i64 0]∧obs=[]):=by
 refine Fnc.low (Fnc.wf fun hw=>?_);have hwd:=xd3 hw.2.1;clear hw;have hl:=xbl A;rw [show(kl q.call).length=3 by rw [c];unfold kl;rfl] at hl;rw [xve c];have fv:=xbe o;rw [xah F] at fv;obtain⟨FQ,hst⟩:=xao A;have fa:=xbf q;rw [xaj FQ] at fa;have fx:=xc9 q.call;rw [show sO q.call=true by rw [c];rfl] at fx;have fkk:=xcc q ω;rw [xcj A] at fkk;have fb:=xO q.call ω ω;rw [show iO q.call=1 by rw [c];rfl] at fb;have fc:=xcd o F;have f00:=jB 0 false;rw [oP] at f00;have w0:=hwd 0 ω;have v0:IntKind.i64.wrap q.args[0]!.val=q.args[0]!.val:=bW ω ω;have w1:=hwd 1 ω;have v1:IntKind.i64.wrap q.args[1]!.val=q.args[1]!.val:=bW ω ω;have w2:=hwd 2 ω;have v2:IntKind.i64.wrap q.args[2]!.val=q.args[2]!.val:=bW ω ω;have hd0:=xwh FQ;have hd:q.data.length≤100000:=ω;have fw:=ytd o.outputs q.args[0]!.val q.data (by have:=F.n;omega) F.short ω;generalize hr:jS o.outputs q.args[0]!.val q.data=r at fw⊢;cases e:r.2.2 with
 |true=>
  rw [uF];rw [e] at fw;have fz:=jB r.2.1 true;rw [uF] at fz;refine uI fZ fv fa fx fkk fb fc fun W S=>?_;refine fU 4 ?_;refine aY (And.intro v0 (And.intro v1 (v2))) ?_;refine kU (f00) ?_;refine aA ?_;refine aF (fw) ?_;refine kU (fz) ?_;refine aA ?_;exact yB fZ
 |false=>
  rw [oP];rw [e] at fw;have fz:=jB r.2.1 false;rw [oP] at fz;refine uI fZ fv fa fx fkk fb fc fun W S=>?_;refine fU 4 ?_;refine aY (And.intro v0 (And.intro v1 (v2))) ?_;refine kU (f00) ?_;refine aA ?_;refine aF (fw) ?_;refine kU (fz) ?_;refine aA ?_;exact yB fZ
theorem yse (o:Rdn.Outside) (q:Request) (F:FitO o) (A:mY q=true) (c:q.call=14) (h16:q.args[2]!.val≤16):Fnc Tryz.prog 203 [jO o,eP q] (fun x obs=>x=.tup [jO (fA o q).1,eX (fA o q).2,.int .i64 0]∧obs=[]):=by
 refine Fnc.low (Fnc.wf fun hw=>?_);have hwd:=xd3 hw.2.1;clear hw;have hl:=xbl A;rw [show(kl q.call).length=3 by rw [c];unfold kl;rfl] at hl;rw [xvf c];have fv:=xbe o;rw [xah F] at fv;obtain⟨FQ,hst⟩:=xao A;have fa:=xbf q;rw [xaj FQ] at fa;have fx:=xc9 q.call;rw [show sO q.call=true by rw [c];rfl] at fx;have fkk:=xcc q ω;rw [xcj A] at fkk;have fb:=xO q.call ω ω;rw [show iO q.call=2 by rw [c];rfl] at fb;have fc:=xcd o F;have f00:=jB 0 false;rw [oP] at f00;have w0:=hwd 0 ω;have v0:IntKind.i64.wrap q.args[0]!.val=q.args[0]!.val:=bW ω ω;have w1:=hwd 1 ω;have v1:IntKind.i64.wrap q.args[1]!.val=q.args[1]!.val:=bW ω ω;have w2:=hwd 2 ω;have v2:IntKind.i64.wrap q.args[2]!.val=q.args[2]!.val:=bW ω ω;have fw:=yta o.inputs q.args[0]!.val q.args[2]!.val (by have:=F.i;omega) (fun w hw=>by have:=F.w w hw;omega);have hno:(jY o.inputs q.args[0]!.val q.args[2]!.val).2.2=false→(jY o.inputs q.args[0]!.val q.args[2]!.val).2.1=[]:=yu5;generalize hr:jY o.inputs q.args[0]!.val q.args[2]!.val=r at fw hno⊢;cases e:r.2.2 with
 |true=>
  rw [uF];rw [e] at fw;have fz:=jB (r.2.1.length:Int) true;rw [uF] at fz;refine uI fZ fv fa fx fkk fb fc fun W S=>?_;refine fU 4 ?_;refine aY (And.intro v0 (And.intro v1 (v2))) ?_;refine kU (f00) ?_;refine aA ?_;refine aF (fw) ?_;refine kU (fz) ?_;refine aA ?_;exact yB fZ
 |false=>
  rw [oP];rw [e] at fw;have fz:=jB (r.2.1.length:Int) false;rw [oP] at fz;rw [hno e] at fw;rw [hno e] at fz;refine uI fZ fv fa fx fkk fb fc fun W S=>?_;refine fU 4 ?_;refine aY (And.intro v0 (And.intro v1 (v2))) ?_;refine kU (f00) ?_;refine aA ?_;refine aF (fw) ?_;refine kU (fz) ?_;refine aA ?_;exact yB fZ
end Go.Proofs.YthmjocibdepahaaGreat
namespace Go.Proofs.YthmjocibdepahaaGreat
open Go Go.RowKit Rdn Rdn.Dp
def xfa (q:Request):Prop:=iO q.call=2→q.args[2]!.val≤16
instance (q:Request):Decidable (xfa q):=by unfold xfa;exact inferInstance
noncomputable def xd0 (o:Rdn.Outside) (q:Request):Bool:=xbk o && mY q && sO q.call && decide (xfa q)
noncomputable def sDo (o:Rdn.Outside) (q:Request):Rdn.Outside×Rdn.Result×Int:=if xd0 o q=true then((fA o q).1,(fA o q).2,0) else(noO,noR,1)
theorem xs9 {o:Rdn.Outside} {q:Request} (h:xd0 o q=true):sDo o q=((fA o q).1,(fA o q).2,0):=if_pos h
theorem ytt {o:Rdn.Outside} {q:Request} (h:xd0 o q=false):sDo o q=(noO,noR,1):=if_neg (by rw [h];decide)
theorem ybc {o:Rdn.Outside} {q:Request} (h:xd0 o q=true):FitO o∧mY q=true∧sO q.call=true∧xfa q:=by
 unfold xd0 at h;simp only [Bool.and_eq_true,decide_eq_true_eq] at h;exact⟨yx2 h.1.1.1,h.1.1.2,h.1.2,h.2⟩
theorem xnx {c:Int} (h:sO c=true):c=1∨c=2∨c=3∨c=4∨c=5∨c=6∨c=7∨c=13∨c=14:=by
 unfold sO at h;have:=of_decide_eq_true h;omega
theorem ypi:eX noR=.agg [aS ⟨0,0,0,0⟩,.sl false 4 [],.int .i64 0,.bool false]:=rfl
theorem xhj:SubV (.agg [.nilS,.nilS,.nilS,.agg [.nilS,.nilS],.nilS]) (.agg [.sl false 1 [],.sl false 1 [],.sl false 1 [],.agg [.sl false 1 [],.sl false 3 []],.sl false 3 []]):=SubV.agg ⟨SubV.nil _ _,SubV.nil _ _,SubV.nil _ _,SubV.agg ⟨SubV.nil _ _,SubV.nil _ _,trivial⟩,SubV.nil _ _,trivial⟩
attribute [local irreducible] xbk xai mY sO xE kl uG
theorem ysm (o:Rdn.Outside) (q:Request) (ha:q.args.length≤1000):Fnc Tryz.prog 203 [jO o,eP q] (fun x obs=>x=.tup [jO (sDo o q).1,eX (sDo o q).2.1,.int .i64 (sDo o q).2.2]∧obs=[]):=by
 cases hk:xd0 o q with
 |true=>
  rw [xs9 hk];obtain⟨F,A,C,H⟩:=ybc hk;rcases xnx C with c|c|c|c|c|c|c|c|c
  ·exact ysf o q F A c
  ·exact ysg o q F A c (H (by rw [c];rfl))
  ·exact ysh o q F A c
  ·exact ysi o q F A c
  ·exact ysj o q F A c
  ·exact ysk o q F A c
  ·exact ysl o q F A c
  ·exact ysd o q F A c
  ·exact yse o q F A c (H (by rw [c];rfl))
 |false=>
  rw [ytt hk,yph,ypi];refine Fnc.low ?_;have fv:=xbe o;have fa:=xbf q;have fx:=xc9 q.call;have fk:=xcc q ha;cases e1:xbk o with
  |false=>
   rw [e1] at fv;refine iR fZ fv fun W S=>?_;refine vI 2 _ rfl xhj rfl ?_;refine vI 3 (.agg [_,.sl false 4 [],_,_]) rfl (SubV.agg ⟨SubV.refl _,SubV.nil _ _,SubV.refl _,SubV.refl _,trivial⟩) rfl ?_;exact aU fZ
  |true=>
   rw [e1] at fv;cases eq:xai q with
   |false=>
    rw [eq] at fa;refine qK fZ fv fa fun W S=>?_;refine vI 2 _ rfl xhj rfl ?_;refine vI 3 (.agg [_,.sl false 4 [],_,_]) rfl (SubV.agg ⟨SubV.refl _,SubV.nil _ _,SubV.refl _,SubV.refl _,trivial⟩) rfl ?_;exact aU fZ
   |true=>
    rw [eq] at fa;by_cases st:q.stop=1;rotate_left
    ·skip
     refine qK fZ fv fa fun W S=>?_;refine vI 2 _ rfl xhj rfl ?_;refine vI 3 (.agg [_,.sl false 4 [],_,_]) rfl (SubV.agg ⟨SubV.refl _,SubV.nil _ _,SubV.refl _,SubV.refl _,trivial⟩) rfl ?_;exact aU fZ
    cases e3:sO q.call with
    |false=>
     rw [e3] at fx;refine zH3 fZ fv fa fx fun W S=>?_;refine vI 2 _ rfl xhj rfl ?_;refine vI 3 (.agg [_,.sl false 4 [],_,_]) rfl (SubV.agg ⟨SubV.refl _,SubV.nil _ _,SubV.refl _,SubV.refl _,trivial⟩) rfl ?_;exact aU fZ
    |true=>
     rw [e3] at fx;cases e4:xE (kl q.call) (uG q) with
     |false=>
      rw [e4] at fk;refine zH4 fZ fv fa fx fk fun W S=>?_;refine vI 2 _ rfl xhj rfl ?_;refine vI 3 (.agg [_,.sl false 4 [],_,_]) rfl (SubV.agg ⟨SubV.refl _,SubV.nil _ _,SubV.refl _,SubV.refl _,trivial⟩) rfl ?_;exact aU fZ
     |true=>
      rw [e4] at fk;have e2:mY q=true:=by unfold mY;rw [eq,e4,aN st];rfl
      have hn:¬xfa q:=fun h=>by unfold xd0 at hk;rw [e1,e2,e3,aN h] at hk;cases hk
      have hb:iO q.call=2:=Classical.byContradiction fun h=>hn fun h2=>absurd h2 h;have hv:¬q.args[2]!.val≤16:=fun h=>hn fun _=>h;have FQ:=yf4 eq;have hl:=xbl e2;have h3:(kl q.call).length=3:=by
       rcases xnx e3 with c|c|c|c|c|c|c|c|c<;>rw [c] at hb⊢<;>first|(unfold kl;rfl)|(exact absurd hb δ)
      rw [h3] at hl;have fb:=xO q.call FQ.call.1 FQ.call.2;rw [hb] at fb;refine zH5 fZ fv fa fx fk fb fun W S=>?_;refine vI 2 _ rfl xhj rfl ?_;refine vI 3 (.agg [_,.sl false 4 [],_,_]) rfl (SubV.agg ⟨SubV.refl _,SubV.nil _ _,SubV.refl _,SubV.refl _,trivial⟩) rfl ?_;exact aU fZ
end Go.Proofs.YthmjocibdepahaaGreat
namespace Go.Proofs.YthmjocibdepahaaGreat
open Go Go.RowKit Rdn Rdn.Dp
theorem FitO.setF {o:Rdn.Outside} (F:FitO o) {f:Files} (h:FitF f):FitO (setF o f):=⟨F.c,F.r,F.i,F.w,h,F.n,F.od,F.d⟩
theorem xn9 (l:List Int):(pR l).1.length≤l.length:=by
 unfold pR;split
 ·exact Nat.le_refl _
 ·rw [List.length_drop];omega
theorem yu4 (l:List (List Int)) (s n:Int):(jY l s n).1.length=l.length:=by
 unfold jY;split
 ·rfl
 ·rw [List.length_set]
theorem yu7 {l:List (List Int)} {s n:Int} (h:∀x∈l,x.length≤64):∀x∈(jY l s n).1,x.length≤64:=by
 unfold jY;split
 ·exact h
 ·rename_i c
  intro x hx;rcases List.mem_or_eq_of_mem_set hx with hx|rfl
  ·exact h x hx
  ·have:=h _ (kE (l:=l) (k:=s.toNat) ω)
   rw [List.length_drop];omega
theorem yua {l:List Output} {s:Int} {d:List Canon} (hn:l.length≤200) (ho:xfc l) (hd:∀x∈l,fD x.data 16=true) (hc:fD d 16=true):(jS l s d).1.length≤200∧xfc (jS l s d).1∧∀x∈(jS l s d).1,fD x.data 16=true:=by
 unfold jS;split
 ·exact⟨hn,ho,hd⟩
 ·rename_i c
  refine⟨by rw [List.length_append];simp;omega,fun j hj=>?_,fun x hx=>?_⟩
  ·rw [List.length_append] at hj
   simp only [List.length_cons,List.length_nil] at hj;by_cases e:j<l.length
   ·have:=ho j e
    rwa [show(l++[(⟨l.length,s,d⟩:Output)])[j]! =l[j]! by rw [getElem!_pos _ j (by rw [List.length_append];omega),getElem!_pos _ j e,List.getElem_append_left e]]
   ·obtain rfl:j=l.length:=ω
    rw [show(l++[(⟨l.length,s,d⟩:Output)])[l.length]! =⟨l.length,s,d⟩ by rw [getElem!_pos _ _ ξ,List.getElem_append_right (Nat.le_refl _)];simp];exact⟨rfl,by dsimp only;omega,by dsimp only;omega,by show d.length≤16;omega⟩
  ·rcases List.mem_append.1 hx with hx|hx
   ·exact hd x hx
   ·obtain rfl:=List.mem_singleton.1 hx
    exact hc
theorem yja {o:Rdn.Outside} {q:Request} (F:FitO o) (A:mY q=true):FitO (fA o q).1:=by
 have hc:=(xao A).1.data;unfold fA;split
 ·exact F.setF (F.f.write _ _)
 split
 ·exact F.setF (F.f.read _ _)
 split
 ·exact F.setF (F.f.open _ _)
 split
 ·exact F.setF (F.f.close _)
 split
 ·exact F.setF (F.f.seek _ _)
 split
 ·exact⟨Nat.le_trans (xn9 _) F.c,F.r,F.i,F.w,F.f,F.n,F.od,F.d⟩
 split
 ·exact⟨F.c,Nat.le_trans (xn9 _) F.r,F.i,F.w,F.f,F.n,F.od,F.d⟩
 split
 ·have h:=yua (s:=q.args[0]!.val) F.n F.od F.d hc
  exact⟨F.c,F.r,F.i,F.w,F.f,h.1,h.2.1,h.2.2⟩
 split
 ·exact⟨F.c,F.r,by show(jY _ _ _).1.length≤2;rw [yu4];exact F.i,yu7 F.w,F.f,F.n,F.od,F.d⟩
 ·exact F
end Go.Proofs.YthmjocibdepahaaGreat
namespace Go.Proofs.YthmjocibdepahaaGreat
open Go Go.RowKit Rdn Rdn.Dp
theorem xbn (v:Int):iH (⟨0,v,0,0⟩:Canon)=true:=decide_eq_true (.inl ⟨.inl rfl,rfl,rfl⟩)
theorem yh8 (v:Int):iH (⟨2,v,0,0⟩:Canon)=true:=decide_eq_true (.inl ⟨.inr rfl,rfl,rfl⟩)
structure FitR (r:Rdn.Result):Prop where
 v:iH r.value=true
 d:fD r.data 16=true
 s:r.spawn=-1
 w:r.wait=false
theorem xbo:fD [] 16=true:=rfl
theorem xol {l:List Canon} {n:Int} (h:l.all iH=true) (h2:(l.length:Int)≤n):fD l n=true:=by unfold fD;rw [h,aN h2];rfl
theorem xd4 {c:Canon} {d:List Canon} (ok:Bool) (h:ok=true→iH c=true) (h2:ok=true→fD d 16=true):FitR (lM c d ok):=by
 cases ok with
 |true=>exact⟨h rfl,h2 rfl,rfl,rfl⟩
 |false=>exact⟨xbn _,xbo,rfl,rfl⟩
theorem xfi {c:Canon} {d:List Canon} {ok:Bool} (h:d=[]):(lM c d ok).data.length=0:=by
 subst h;cases ok<;>rfl
theorem xmf {v:Int} (h0:0≤v) (h1:v≤1000):nH v≠⟨0,65535,0,0⟩:=by
 unfold nH;rw [show IntKind.u16.wrap v=v from xtd h0 ω];intro h;have:=congrArg Canon.val h;dsimp only at this;omega
theorem xfj {c:Canon} {d:List Canon} {ok:Bool} (h:ok=true→c≠⟨0,65535,0,0⟩) (e:(lM c d ok).value=⟨0,65535,0,0⟩):ok=false:=by
 cases ok with
 |true=>exact absurd e (h rfl)
 |false=>rfl
theorem yuf {f:Files} {h:Int} {c:List Canon} (e:(nM f h c).2.2=false):(nM f h c).1=f:=by
 unfold nM at e⊢;split at e
 ·cases e
 ·rename_i n;rw [if_neg n]
theorem yu2 {f:Files} {h n:Int} (e:(kR f h n).2.2=false):(kR f h n).1=f:=by
 unfold kR at e⊢;split at e
 ·cases e
 ·rename_i n;rw [if_neg n]
theorem yts {f:Files} {h:Int} (e:(tH f h).2=false):(tH f h).1=f:=by
 unfold tH at e⊢;split at e
 ·cases e
 ·rename_i n;rw [if_neg n]
theorem yu9 {f:Files} {h x:Int} (e:(sH f h x).2=false):(sH f h x).1=f:=by
 unfold sH at e⊢;split at e
 ·cases e
 ·rename_i n;rw [if_neg n]
theorem yty {f:Files} {k m:Int} (e:¬0≤(oQ f k m).2):(oQ f k m).1=f:=by
 unfold oQ at e⊢;split
 ·rfl
 ·rename_i n
  rw [if_neg n] at e;split at e
  ·exact absurd (Int.natCast_nonneg _) e
  ·split at e<;>exact absurd (Int.natCast_nonneg _) e
theorem yuc {l:List Output} {s:Int} {d:List Canon} (e:(jS l s d).2.2=false):(jS l s d).1=l:=by
 unfold jS at e⊢;split at e
 ·rename_i n;rw [if_pos n]
 ·cases e
theorem yu6 {l:List (List Int)} {s n:Int} (e:(jY l s n).2.2=false):(jY l s n).1=l:=by
 unfold jY at e⊢;split at e
 ·rename_i n;rw [if_pos n]
 ·cases e
theorem yue {f:Files} (F:FitF f) {h:Int} {c:List Canon} (hc:c.length≤16):0≤(nM f h c).2.1∧(nM f h c).2.1≤16:=by
 unfold nM;split
 ·rename_i n
  obtain⟨a1,a2,a3,a4,a5⟩:=F.at n.1;unfold sN;dsimp only;omega
 ·exact⟨Int.le_refl _,by dsimp only;omega⟩
theorem yfu {l:List Canon} {P:Canon→Bool} (h:l.all P=true) {m:List Canon} (hm:∀x∈m,x∈l):m.all P=true:=List.all_eq_true.2 fun x hx=>List.all_eq_true.1 h x (hm x hx)
theorem yu0 {f:Files} (F:FitF f) {h n:Int} (hn:n≤16):fD (kR f h n).2.1 16=true:=by
 unfold kR;split
 ·rename_i c
  obtain⟨a1,a2,a3,a4,a5⟩:=F.at c.1;have hm:(dat f h)∈f.data:=by
   unfold dat;exact kE ω
  refine xol (yfu (F.cell _ hm) fun x hx=>List.mem_of_mem_drop (List.mem_of_mem_take hx)) ?_;have:yZ f h n≤n:=by unfold yZ;omega
  rw [List.length_take];omega
 ·exact xbo
theorem ypm (l:List Int):(mF l).all iH=true:=by
 refine List.all_eq_true.2 fun x hx=>?_;unfold mF at hx;obtain⟨v,-,rfl⟩:=List.mem_map.1 hx;exact xbn v
theorem yu3 {l:List (List Int)} {s n:Int} (hn:n≤16):fD (jY l s n).2.1 16=true:=by
 unfold jY;split
 ·exact xbo
 ·refine xol (ypm _) ?_
  rw [xf7,List.length_take];omega
theorem xer {l:List Canon} (h:fD l 16=true):l.length≤16:=by
 unfold fD at h;simp only [Bool.and_eq_true,decide_eq_true_eq] at h;omega
theorem yub {l:List Output} {s:Int} {d:List Canon}:0≤(jS l s d).2.1∧(jS l s d).2.1≤16:=by
 unfold jS;split
 ·exact⟨Int.le_refl _,by dsimp only;omega⟩
 ·dsimp only;omega
theorem sSend_pre {l:List Output} {s:Int} {d:List Canon}:l.length≤(jS l s d).1.length∧∀j,j<l.length→(jS l s d).1[j]! =l[j]!:=by
 unfold jS;split
 ·exact⟨Nat.le_refl _,fun _ _=>rfl⟩
 ·refine⟨by rw [List.length_append];omega,fun j hj=>?_⟩
  rw [getElem!_pos _ j (by rw [List.length_append];omega),getElem!_pos _ j hj,List.getElem_append_left hj]
theorem yde {l:List Int} (h:(pR l).2.2=true):iH (pR l).2.1=true:=by
 unfold pR at h⊢;split at h
 ·cases h
 ·rename_i n
  rw [if_neg n];exact xbn _
structure Keeps (o:Rdn.Outside) (q:Request):Prop where
 r:FitR (fA o q).2
 n:o.outputs.length≤(fA o q).1.outputs.length
 c:(fA o q).1.clock.length≤o.clock.length
 d:(fA o q).1.random.length≤o.random.length
 p:∀j,j<o.outputs.length→(fA o q).1.outputs[j]! =o.outputs[j]!
 f:(fA o q).2.value=⟨0,65535,0,0⟩→q.call≠6→q.call≠7→(fA o q).1=o
 b:0<(fA o q).2.data.length→iO q.call=2
theorem yjb {o:Rdn.Outside} {q:Request} (F:FitO o) (A:mY q=true) (C:sO q.call=true) (H:xfa q):Keeps o q:=by
 have hd:=(xao A).1.data;have hl:=xer hd;rcases xnx C with c|c|c|c|c|c|c|c|c
 ·have e:=xvd (o:=o) c
  have n:=yue F.f (h:=q.args[0]!.val) hl;refine⟨by rw [e];exact xd4 _ (fun _=>xbn _) (fun _=>xbo),by rw [e];exact Nat.le_refl _,by rw [e];exact Nat.le_refl _,by rw [e];exact Nat.le_refl _,by rw [e];exact fun _ _=>rfl,fun h _ _=>?_,fun h=>?_⟩
  ·rw [e] at h⊢
   have:=xfj (fun _=>xmf n.1 ω) h;dsimp only;rw [yuf this];rfl
  ·rw [e] at h
   have:0<0:=by have h':=xfi (c:=nH (nM o.files q.args[0]!.val q.data).2.1) (ok:=(nM o.files q.args[0]!.val q.data).2.2) (rfl:([]:List Canon)=[]);dsimp only at h;omega
   omega
 ·have e:=xvg (o:=o) c
  have H2:=H (by rw [c];rfl);have d:=yu0 F.f (h:=q.args[0]!.val) H2;have n:=xer d;refine⟨by rw [e];exact xd4 _ (fun _=>xbn _) (fun _=>d),by rw [e];exact Nat.le_refl _,by rw [e];exact Nat.le_refl _,by rw [e];exact Nat.le_refl _,by rw [e];exact fun _ _=>rfl,fun h _ _=>?_,fun h=>by rw [c];rfl⟩;rw [e] at h⊢;have:=xfj (fun _=>xmf ω ω) h;dsimp only;rw [yu2 this];rfl
 ·have e:=xvh (o:=o) c
  refine⟨by rw [e];exact xd4 _ (fun _=>yh8 _) (fun _=>xbo),by rw [e];exact Nat.le_refl _,by rw [e];exact Nat.le_refl _,by rw [e];exact Nat.le_refl _,by rw [e];exact fun _ _=>rfl,fun h _ _=>?_,fun h=>?_⟩
  ·rw [e] at h⊢
   have:=xfj (fun _ h=>absurd (show(2:Int)=0 from congrArg Canon.tag h) δ) h;dsimp only;rw [yty (of_decide_eq_false this)];rfl
  ·rw [e] at h
   exact absurd h (by rw [xfi rfl];omega)
 ·have e:=xvi (o:=o) c
  refine⟨by rw [e];exact xd4 _ (fun _=>xbn _) (fun _=>xbo),by rw [e];exact Nat.le_refl _,by rw [e];exact Nat.le_refl _,by rw [e];exact Nat.le_refl _,by rw [e];exact fun _ _=>rfl,fun h _ _=>?_,fun h=>?_⟩
  ·rw [e] at h⊢
   have:=xfj (fun _ h=>absurd (show(0:Int)=65535 from congrArg Canon.val h) δ) h;dsimp only;rw [yts this];rfl
  ·rw [e] at h
   exact absurd h (by rw [xfi rfl];omega)
 ·have e:=xvj (o:=o) c
  refine⟨by rw [e];exact xd4 _ (fun _=>xbn _) (fun _=>xbo),by rw [e];exact Nat.le_refl _,by rw [e];exact Nat.le_refl _,by rw [e];exact Nat.le_refl _,by rw [e];exact fun _ _=>rfl,fun h _ _=>?_,fun h=>?_⟩
  ·rw [e] at h⊢
   have:=xfj (fun _ h=>absurd (show(0:Int)=65535 from congrArg Canon.val h) δ) h;dsimp only;rw [yu9 this];rfl
  ·rw [e] at h
   exact absurd h (by rw [xfi rfl];omega)
 ·have e:=xvk (o:=o) c
  refine⟨by rw [e];exact xd4 _ yde (fun _=>xbo),by rw [e];exact Nat.le_refl _,by rw [e];exact xn9 _,by rw [e];exact Nat.le_refl _,by rw [e];exact fun _ _=>rfl,fun _ h=>absurd c h,fun h=>?_⟩
  ·rw [e] at h
   exact absurd h (by rw [xfi rfl];omega)
 ·have e:=xvl (o:=o) c
  refine⟨by rw [e];exact xd4 _ yde (fun _=>xbo),by rw [e];exact Nat.le_refl _,by rw [e];exact Nat.le_refl _,by rw [e];exact xn9 _,by rw [e];exact fun _ _=>rfl,fun _ _ h=>absurd c h,fun h=>?_⟩
  ·rw [e] at h
   exact absurd h (by rw [xfi rfl];omega)
 ·have e:=xve (o:=o) c
  have n:=yub (l:=o.outputs) (s:=q.args[0]!.val) (d:=q.data);refine⟨by rw [e];exact xd4 _ (fun _=>xbn _) (fun _=>xbo),by rw [e];exact sSend_pre.1,by rw [e];exact Nat.le_refl _,by rw [e];exact Nat.le_refl _,by rw [e];exact sSend_pre.2,fun h _ _=>?_,fun h=>?_⟩
  ·rw [e] at h⊢
   have:=xfj (fun _=>xmf n.1 ω) h;dsimp only;rw [yuc this]
  ·rw [e] at h
   exact absurd h (by rw [xfi rfl];omega)
 ·have e:=xvf (o:=o) c
  have H2:=H (by rw [c];rfl);have d:=yu3 (l:=o.inputs) (s:=q.args[0]!.val) H2;have n:=xer d;refine⟨by rw [e];exact xd4 _ (fun _=>xbn _) (fun _=>d),by rw [e];exact Nat.le_refl _,by rw [e];exact Nat.le_refl _,by rw [e];exact Nat.le_refl _,by rw [e];exact fun _ _=>rfl,fun h _ _=>?_,fun h=>by rw [c];rfl⟩;rw [e] at h⊢;have:=xfj (fun _=>xmf ω ω) h;dsimp only;rw [yu6 this]
end Go.Proofs.YthmjocibdepahaaGreat
