/- The outside: what calls do. -/
import Derived.Test.YtkfpcgkmemfdaaaGreatUB
import Derived.Test.YtkfpcgkmemfdaaaGreatC5
namespace Go.Proofs.YtkfpcgkmemfdaaaGreat
open Go Go.RowKit Rdn Rdn.Dp
set_option linter.unusedVariables false
set_option linter.unusedSimpArgs false
theorem m_dog_ok : compF Tryz.prog 51 = some (11, Qr ([Qp 3 (.mov (Qi 0))])
 (Qr ([Qf 4 6 6 1, Ql 5 1 4, Qm 6 0, Qx 7 4 5 6, Qf 8 1 1 7, Ql 9 1 8, Qp 10 (.conv .i64 (.t 9)), Qm 3 10])
 (.ret)), [.mov (.t 3)]) := by kernel_rfl
def setF (o : Rdn.Outside) (f : Files) : Rdn.Outside := ⟨o.clock, o.random, o.inputs, f, o.outputs⟩
def resB (c : Canon) (d : List Canon) (ok : Bool) : Rdn.Result := if ok = true then okR c d else failR
theorem resB_T (c : Canon) (d : List Canon) : resB c d true = okR c d := rfl
theorem resB_F (c : Canon) (d : List Canon) : resB c d false = failR := rfl
/-- What a call does. -/
def doS (o : Rdn.Outside) (q : Request) : Rdn.Outside × Rdn.Result :=
  if q.call = 1 then (setF o (sWrite o.files q.args[0]!.val q.data).1, resB (numR (sWrite o.files q.args[0]!.val q.data).2.1) [] ((sWrite o.files q.args[0]!.val q.data).2.2))
  else if q.call = 2 then (setF o (sRead o.files q.args[0]!.val q.args[2]!.val).1, resB (numR (sRead o.files q.args[0]!.val q.args[2]!.val).2.1.length) (sRead o.files q.args[0]!.val q.args[2]!.val).2.1 ((sRead o.files q.args[0]!.val q.args[2]!.val).2.2))
  else if q.call = 3 then (setF o (sOpen o.files q.args[0]!.val q.args[1]!.val).1, resB (⟨2, IntKind.u16.wrap (sOpen o.files q.args[0]!.val q.args[1]!.val).2, 0, 0⟩) [] (decide ((0 : Int) ≤ (sOpen o.files q.args[0]!.val q.args[1]!.val).2)))
  else if q.call = 4 then (setF o (sClose o.files q.args[0]!.val).1, resB (⟨0, 0, 0, 0⟩) [] ((sClose o.files q.args[0]!.val).2))
  else if q.call = 5 then (setF o (sSeek o.files q.args[0]!.val q.args[1]!.val).1, resB (⟨0, 0, 0, 0⟩) [] ((sSeek o.files q.args[0]!.val q.args[1]!.val).2))
  else if q.call = 6 then (⟨(sFirst o.clock).1, o.random, o.inputs, o.files, o.outputs⟩, resB ((sFirst o.clock).2.1) [] ((sFirst o.clock).2.2))
  else if q.call = 7 then (⟨o.clock, (sFirst o.random).1, o.inputs, o.files, o.outputs⟩, resB ((sFirst o.random).2.1) [] ((sFirst o.random).2.2))
  else if q.call = 13 then (⟨o.clock, o.random, o.inputs, o.files, (sSend o.outputs q.args[0]!.val q.data).1⟩, resB (numR (sSend o.outputs q.args[0]!.val q.data).2.1) [] ((sSend o.outputs q.args[0]!.val q.data).2.2))
  else if q.call = 14 then (⟨o.clock, o.random, (sRecv o.inputs q.args[0]!.val q.args[2]!.val).1, o.files, o.outputs⟩, resB (numR (sRecv o.inputs q.args[0]!.val q.args[2]!.val).2.1.length) (sRecv o.inputs q.args[0]!.val q.args[2]!.val).2.1 ((sRecv o.inputs q.args[0]!.val q.args[2]!.val).2.2))
  else (o, failR)
theorem doS_1 {o : Rdn.Outside} {q : Request} (c : q.call = 1) : doS o q = (setF o (sWrite o.files q.args[0]!.val q.data).1, resB (numR (sWrite o.files q.args[0]!.val q.data).2.1) [] ((sWrite o.files q.args[0]!.val q.data).2.2)) := by
  unfold doS
  rw [if_pos c]
theorem doS_2 {o : Rdn.Outside} {q : Request} (c : q.call = 2) : doS o q = (setF o (sRead o.files q.args[0]!.val q.args[2]!.val).1, resB (numR (sRead o.files q.args[0]!.val q.args[2]!.val).2.1.length) (sRead o.files q.args[0]!.val q.args[2]!.val).2.1 ((sRead o.files q.args[0]!.val q.args[2]!.val).2.2)) := by
  unfold doS
  rw [if_neg (by omega), if_pos c]
theorem doS_3 {o : Rdn.Outside} {q : Request} (c : q.call = 3) : doS o q = (setF o (sOpen o.files q.args[0]!.val q.args[1]!.val).1, resB (⟨2, IntKind.u16.wrap (sOpen o.files q.args[0]!.val q.args[1]!.val).2, 0, 0⟩) [] (decide ((0 : Int) ≤ (sOpen o.files q.args[0]!.val q.args[1]!.val).2))) := by
  unfold doS
  rw [if_neg (by omega), if_neg (by omega), if_pos c]
theorem doS_4 {o : Rdn.Outside} {q : Request} (c : q.call = 4) : doS o q = (setF o (sClose o.files q.args[0]!.val).1, resB (⟨0, 0, 0, 0⟩) [] ((sClose o.files q.args[0]!.val).2)) := by
  unfold doS
  rw [if_neg (by omega), if_neg (by omega), if_neg (by omega), if_pos c]
theorem doS_5 {o : Rdn.Outside} {q : Request} (c : q.call = 5) : doS o q = (setF o (sSeek o.files q.args[0]!.val q.args[1]!.val).1, resB (⟨0, 0, 0, 0⟩) [] ((sSeek o.files q.args[0]!.val q.args[1]!.val).2)) := by
  unfold doS
  rw [if_neg (by omega), if_neg (by omega), if_neg (by omega), if_neg (by omega), if_pos c]
theorem doS_6 {o : Rdn.Outside} {q : Request} (c : q.call = 6) : doS o q = (⟨(sFirst o.clock).1, o.random, o.inputs, o.files, o.outputs⟩, resB ((sFirst o.clock).2.1) [] ((sFirst o.clock).2.2)) := by
  unfold doS
  rw [if_neg (by omega), if_neg (by omega), if_neg (by omega), if_neg (by omega), if_neg (by omega), if_pos c]
theorem doS_7 {o : Rdn.Outside} {q : Request} (c : q.call = 7) : doS o q = (⟨o.clock, (sFirst o.random).1, o.inputs, o.files, o.outputs⟩, resB ((sFirst o.random).2.1) [] ((sFirst o.random).2.2)) := by
  unfold doS
  rw [if_neg (by omega), if_neg (by omega), if_neg (by omega), if_neg (by omega), if_neg (by omega), if_neg (by omega), if_pos c]
theorem doS_13 {o : Rdn.Outside} {q : Request} (c : q.call = 13) : doS o q = (⟨o.clock, o.random, o.inputs, o.files, (sSend o.outputs q.args[0]!.val q.data).1⟩, resB (numR (sSend o.outputs q.args[0]!.val q.data).2.1) [] ((sSend o.outputs q.args[0]!.val q.data).2.2)) := by
  unfold doS
  rw [if_neg (by omega), if_neg (by omega), if_neg (by omega), if_neg (by omega), if_neg (by omega), if_neg (by omega), if_neg (by omega), if_pos c]
theorem doS_14 {o : Rdn.Outside} {q : Request} (c : q.call = 14) : doS o q = (⟨o.clock, o.random, (sRecv o.inputs q.args[0]!.val q.args[2]!.val).1, o.files, o.outputs⟩, resB (numR (sRecv o.inputs q.args[0]!.val q.args[2]!.val).2.1.length) (sRecv o.inputs q.args[0]!.val q.args[2]!.val).2.1 ((sRecv o.inputs q.args[0]!.val q.args[2]!.val).2.2)) := by
  unfold doS
  rw [if_neg (by omega), if_neg (by omega), if_neg (by omega), if_neg (by omega), if_neg (by omega), if_neg (by omega), if_neg (by omega), if_neg (by omega), if_pos c]
/-- The numbers of a request's arguments are words. -/
def wordQ (q : Request) : Prop := ∀ i, i < q.args.length → 0 ≤ q.args[i]!.val ∧ q.args[i]!.val ≤ 65535
set_option maxHeartbeats 4000000 in
theorem dog_fn (q : Request) (i : Int) (h0 : 0 ≤ i) (h : i < q.args.length) (W : wordQ q) : Fnc Tryz.prog 51 [.int .i64 i, .rp (reqV q)] (fun x obs => x = .int .i64 q.args[i.toNat]!.val ∧ obs = []) := by
  obtain ⟨j, rfl⟩ := Int.eq_ofNat_of_zero_le h0
  have hw := W j (by omega)
  have hwr : IntKind.i64.wrap q.args[j]!.val = q.args[j]!.val := wrapI64 (by omega) (by omega)
  simp only [Int.toNat_natCast]
  refine zgo m_dog_ok fun W S => ?_
  refine zsx hwr ?_
  exact zrt m_dog_ok
theorem asks_len {q : Request} (h : asksB q = true) : q.args.length = (kl q.call).length := by
  unfold asksB fitsL at h
  simp only [Bool.and_eq_true, decide_eq_true_eq] at h
  rw [h.2.1, tagsQ_len]
theorem asks_fit {q : Request} (h : asksB q = true) : FitQ q ∧ q.stop = 1 := by
  unfold asksB at h
  simp only [Bool.and_eq_true, decide_eq_true_eq] at h
  exact ⟨valQ_to h.1.1, h.1.2⟩
theorem fit_data {q : Request} (F : FitQ q) : q.data.length ≤ 16 := by
  have := F.data; unfold cellsB at this; simp only [Bool.and_eq_true, decide_eq_true_eq] at this; omega
theorem req_words {q : Request} (hw : (reqV q).wf) : wordQ q := fun k hk => by
  simp only [V.wf, V.wfs, wfs_map] at hw
  have := hw.2.2.2.2.2.2.1.1 _ (mem_at hk)
  exact inK_u16' this.2.1
attribute [local irreducible] sWrite sRead sOpen sClose sSeek sSend sRecv sFirst kl asksB
set_option maxHeartbeats 16000000 in
theorem wdo1_fn (o : Rdn.Outside) (q : Request) (F : FitO o) (A : asksB q = true) (c : q.call = 1) : Fnc Tryz.prog 14 [outsV o, reqV q] (fun x obs => x = .tup [outsV (doS o q).1, resV (doS o q).2, .int .i64 0] ∧ obs = []) := by
  refine Fnc.low (Fnc.wf fun hw => ?_)
  have hwd := req_words hw.2.1
  clear hw
  have hl := asks_len A
  rw [show (kl q.call).length = 3 by rw [c]; unfold kl; rfl] at hl
  rw [doS_1 c]
  have fv := woval_fn o
  rw [valO_T F] at fv
  have fa := wasks_fn q (by omega)
  rw [A] at fa
  have fx := wact_fn q.call
  rw [show actB q.call = true by rw [c]; rfl] at fx
  have fb := wbuf_fn q.call (by omega) (by omega)
  rw [show bufS q.call = 1 by rw [c]; rfl] at fb
  have fc := wocpy_fn o F
  have fn := wnumb_fn 0
  rw [numR_0] at fn
  have fm := wnumb_fn 65535
  rw [numR_f] at fm
  have f0 := dog_fn q 0 (by omega) (by omega) hwd
  rw [show (0 : Int).toNat = 0 from rfl] at f0
  have hd0 := fit_data (asks_fit A).1
  have hd : q.data.length ≤ 100000 := by omega
  have fw := wwrite_fn o.files F.f q.args[0]!.val q.data hd
  generalize hr : sWrite o.files q.args[0]!.val q.data = r at fw ⊢
  have fk := wnumb_fn r.2.1
  cases e : r.2.2 with
  | true =>
    rw [resB_T]
    rw [e] at fw
    refine zgo m_wdo_ok fun W S => ?_
    refine zcd (fv) ?_
    refine zcd (fa) ?_
    refine zcd (fx) ?_
    refine zcd (fb) ?_
    refine zcd (fc) ?_
    (first | refine callD (fn) ?_ | refine callDw (fn) ?_); refine zev ?_
    refine zsu ?_
    refine ev_region ?_; simp only [go_sem]
    refine zsu ?_
    refine ev_region ?_; simp only [go_sem]
    refine zsu ?_
    refine ev_region ?_; simp only [go_sem]
    refine zsu ?_
    refine ev_clo2 46 11 rfl rfl rfl rfl ?_
    refine zst ?_
    refine zcv (f0) ?_
    refine zcd (fw) ?_
    refine zcd (fk) ?_
    refine ev_obSub 3 (.agg [_, .sl false 4 [], _, _]) rfl (SubV.agg ⟨SubV.refl _, SubV.nil _ _, SubV.refl _, SubV.refl _, trivial⟩) rfl ?_
    refine ret m_wdo_ok [] ?_; (first | (simp only [go_sem]; done) | (simp only [go_sem]; ((try dsimp only); (repeat' (refine And.intro ?_ ?_)) <;> first | with_reducible rfl | (simp only [go_sem]; done) | (simp only [go_sem]; rfl) | (simp only [go_sem, okR, setF]; done) | (simp only [okR, setF]; (try simp only [go_sem]); first | done | rfl) | (simp only [go_sem]; simp [okR, setF]; done) | (simp [okR, setF]; done) | rfl)))
  | false =>
    rw [resB_F]
    rw [e] at fw
    refine zgo m_wdo_ok fun W S => ?_
    refine zcd (fv) ?_
    refine zcd (fa) ?_
    refine zcd (fx) ?_
    refine zcd (fb) ?_
    refine zcd (fc) ?_
    (first | refine callD (fn) ?_ | refine callDw (fn) ?_); refine zev ?_
    refine zsu ?_
    refine ev_region ?_; simp only [go_sem]
    refine zsu ?_
    refine ev_region ?_; simp only [go_sem]
    refine zsu ?_
    refine ev_region ?_; simp only [go_sem]
    refine zsu ?_
    refine ev_clo2 46 11 rfl rfl rfl rfl ?_
    refine zst ?_
    refine zcv (f0) ?_
    refine zcd (fw) ?_
    refine zcd (fk) ?_
    refine zcd (fm) ?_
    refine ev_obSub 3 (.agg [_, .sl false 4 [], _, _]) rfl (SubV.agg ⟨SubV.refl _, SubV.nil _ _, SubV.refl _, SubV.refl _, trivial⟩) rfl ?_
    refine ret m_wdo_ok [] ?_; (first | (simp only [go_sem]; done) | (simp only [go_sem]; ((try dsimp only); (repeat' (refine And.intro ?_ ?_)) <;> first | with_reducible rfl | (simp only [go_sem]; done) | (simp only [go_sem]; rfl) | (simp only [go_sem, okR, failR, setF]; done) | (simp only [okR, failR, setF]; (try simp only [go_sem]); first | done | rfl) | (simp only [go_sem]; simp [okR, failR, setF]; done) | (simp [okR, failR, setF]; done) | rfl)))
set_option maxHeartbeats 16000000 in
theorem wdo2_fn (o : Rdn.Outside) (q : Request) (F : FitO o) (A : asksB q = true) (c : q.call = 2) (h16 : q.args[2]!.val ≤ 16) : Fnc Tryz.prog 14 [outsV o, reqV q] (fun x obs => x = .tup [outsV (doS o q).1, resV (doS o q).2, .int .i64 0] ∧ obs = []) := by
  refine Fnc.low (Fnc.wf fun hw => ?_)
  have hwd := req_words hw.2.1
  clear hw
  have hl := asks_len A
  rw [show (kl q.call).length = 3 by rw [c]; unfold kl; rfl] at hl
  rw [doS_2 c]
  have fv := woval_fn o
  rw [valO_T F] at fv
  have fa := wasks_fn q (by omega)
  rw [A] at fa
  have fx := wact_fn q.call
  rw [show actB q.call = true by rw [c]; rfl] at fx
  have fb := wbuf_fn q.call (by omega) (by omega)
  rw [show bufS q.call = 2 by rw [c]; rfl] at fb
  have fc := wocpy_fn o F
  have fn := wnumb_fn 0
  rw [numR_0] at fn
  have fm := wnumb_fn 65535
  rw [numR_f] at fm
  have f0 := dog_fn q 0 (by omega) (by omega) hwd
  rw [show (0 : Int).toNat = 0 from rfl] at f0
  have f2 := dog_fn q 2 (by omega) (by omega) hwd
  rw [show (2 : Int).toNat = 2 from rfl] at f2
  have fw := wread_fn o.files F.f q.args[0]!.val q.args[2]!.val
  generalize hr : sRead o.files q.args[0]!.val q.args[2]!.val = r at fw ⊢
  have fk := wnumb_fn (r.2.1.length : Int)
  cases e : r.2.2 with
  | true =>
    rw [resB_T]
    rw [e] at fw
    refine zgo m_wdo_ok fun W S => ?_
    refine zcd (fv) ?_
    refine zcd (fa) ?_
    refine zcd (fx) ?_
    refine zcd (fb) ?_
    refine zcd (fc) ?_
    (first | refine callD (fn) ?_ | refine callDw (fn) ?_); refine zev ?_
    refine zsu ?_
    refine ev_region ?_; simp only [go_sem]
    refine zsu ?_
    refine ev_region ?_; simp only [go_sem]
    refine zsu ?_
    refine ev_region ?_; simp only [go_sem]
    refine zsu ?_
    refine ev_clo2 46 11 rfl rfl rfl rfl ?_
    refine zst ?_
    refine zcv (f0) ?_
    refine zcv (f2) ?_
    refine zcd (fw) ?_
    refine zcd (fk) ?_
    refine ret m_wdo_ok [] ?_; (first | (simp only [go_sem]; done) | (simp only [go_sem]; ((try dsimp only); (repeat' (refine And.intro ?_ ?_)) <;> first | with_reducible rfl | (simp only [go_sem]; done) | (simp only [go_sem]; rfl) | (simp only [go_sem, okR, setF]; done) | (simp only [okR, setF]; (try simp only [go_sem]); first | done | rfl) | (simp only [go_sem]; simp [okR, setF]; done) | (simp [okR, setF]; done) | rfl)))
  | false =>
    rw [resB_F]
    rw [e] at fw
    refine zgo m_wdo_ok fun W S => ?_
    refine zcd (fv) ?_
    refine zcd (fa) ?_
    refine zcd (fx) ?_
    refine zcd (fb) ?_
    refine zcd (fc) ?_
    (first | refine callD (fn) ?_ | refine callDw (fn) ?_); refine zev ?_
    refine zsu ?_
    refine ev_region ?_; simp only [go_sem]
    refine zsu ?_
    refine ev_region ?_; simp only [go_sem]
    refine zsu ?_
    refine ev_region ?_; simp only [go_sem]
    refine zsu ?_
    refine ev_clo2 46 11 rfl rfl rfl rfl ?_
    refine zst ?_
    refine zcv (f0) ?_
    refine zcv (f2) ?_
    refine zcd (fw) ?_
    refine zcd (fk) ?_
    refine zcd (fm) ?_
    refine ev_obSub 3 (.agg [_, .sl false 4 [], _, _]) rfl (SubV.agg ⟨SubV.refl _, SubV.nil _ _, SubV.refl _, SubV.refl _, trivial⟩) rfl ?_
    refine ret m_wdo_ok [] ?_; (first | (simp only [go_sem]; done) | (simp only [go_sem]; ((try dsimp only); (repeat' (refine And.intro ?_ ?_)) <;> first | with_reducible rfl | (simp only [go_sem]; done) | (simp only [go_sem]; rfl) | (simp only [go_sem, okR, failR, setF]; done) | (simp only [okR, failR, setF]; (try simp only [go_sem]); first | done | rfl) | (simp only [go_sem]; simp [okR, failR, setF]; done) | (simp [okR, failR, setF]; done) | rfl)))
set_option maxHeartbeats 16000000 in
theorem wdo3_fn (o : Rdn.Outside) (q : Request) (F : FitO o) (A : asksB q = true) (c : q.call = 3) : Fnc Tryz.prog 14 [outsV o, reqV q] (fun x obs => x = .tup [outsV (doS o q).1, resV (doS o q).2, .int .i64 0] ∧ obs = []) := by
  refine Fnc.low (Fnc.wf fun hw => ?_)
  have hwd := req_words hw.2.1
  clear hw
  have hl := asks_len A
  rw [show (kl q.call).length = 2 by rw [c]; unfold kl; rfl] at hl
  rw [doS_3 c]
  have fv := woval_fn o
  rw [valO_T F] at fv
  have fa := wasks_fn q (by omega)
  rw [A] at fa
  have fx := wact_fn q.call
  rw [show actB q.call = true by rw [c]; rfl] at fx
  have fb := wbuf_fn q.call (by omega) (by omega)
  rw [show bufS q.call = 0 by rw [c]; rfl] at fb
  have fc := wocpy_fn o F
  have fn := wnumb_fn 0
  rw [numR_0] at fn
  have fm := wnumb_fn 65535
  rw [numR_f] at fm
  have f0 := dog_fn q 0 (by omega) (by omega) hwd
  rw [show (0 : Int).toNat = 0 from rfl] at f0
  have f1 := dog_fn q 1 (by omega) (by omega) hwd
  rw [show (1 : Int).toNat = 1 from rfl] at f1
  have fw := wopen_fn o.files F.f q.args[0]!.val q.args[1]!.val
  generalize hr : sOpen o.files q.args[0]!.val q.args[1]!.val = r at fw ⊢
  by_cases e : 0 ≤ r.2
  · rw [decT e, resB_T]
    refine zgo m_wdo_ok fun W S => ?_
    refine zcd (fv) ?_
    refine zcd (fa) ?_
    refine zcd (fx) ?_
    refine zcd (fb) ?_
    refine zcd (fc) ?_
    (first | refine callD (fn) ?_ | refine callDw (fn) ?_); refine zev ?_
    refine zsu ?_
    refine ev_region ?_; simp only [go_sem]
    refine zsu ?_
    refine ev_region ?_; simp only [go_sem]
    refine zsu ?_
    refine ev_region ?_; simp only [go_sem]
    refine zsu ?_
    refine ev_clo2 46 11 rfl rfl rfl rfl ?_
    refine zst ?_
    refine zcv (f0) ?_
    refine zcv (f1) ?_
    refine zcd (fw) ?_
    refine ev_obSub 3 (.agg [_, .sl false 4 [], _, _]) rfl (SubV.agg ⟨SubV.refl _, SubV.nil _ _, SubV.refl _, SubV.refl _, trivial⟩) rfl ?_
    refine ret m_wdo_ok [] ?_; (first | (simp only [go_sem]; done) | (simp only [go_sem]; ((try dsimp only); (repeat' (refine And.intro ?_ ?_)) <;> first | with_reducible rfl | (simp only [go_sem]; done) | (simp only [go_sem]; rfl) | (simp only [go_sem, okR, setF]; done) | (simp only [okR, setF]; (try simp only [go_sem]); first | done | rfl) | (simp only [go_sem]; simp [okR, setF]; done) | (simp [okR, setF]; done) | rfl)))
  · rw [decF e, resB_F]
    refine zgo m_wdo_ok fun W S => ?_
    refine zcd (fv) ?_
    refine zcd (fa) ?_
    refine zcd (fx) ?_
    refine zcd (fb) ?_
    refine zcd (fc) ?_
    (first | refine callD (fn) ?_ | refine callDw (fn) ?_); refine zev ?_
    refine zsu ?_
    refine ev_region ?_; simp only [go_sem]
    refine zsu ?_
    refine ev_region ?_; simp only [go_sem]
    refine zsu ?_
    refine ev_region ?_; simp only [go_sem]
    refine zsu ?_
    refine ev_clo2 46 11 rfl rfl rfl rfl ?_
    refine zst ?_
    refine zcv (f0) ?_
    refine zcv (f1) ?_
    refine zcd (fw) ?_
    refine zcd (fm) ?_
    refine ev_obSub 3 (.agg [_, .sl false 4 [], _, _]) rfl (SubV.agg ⟨SubV.refl _, SubV.nil _ _, SubV.refl _, SubV.refl _, trivial⟩) rfl ?_
    refine ret m_wdo_ok [] ?_; (first | (simp only [go_sem]; done) | (simp only [go_sem]; ((try dsimp only); (repeat' (refine And.intro ?_ ?_)) <;> first | with_reducible rfl | (simp only [go_sem]; done) | (simp only [go_sem]; rfl) | (simp only [go_sem, okR, failR, setF]; done) | (simp only [okR, failR, setF]; (try simp only [go_sem]); first | done | rfl) | (simp only [go_sem]; simp [okR, failR, setF]; done) | (simp [okR, failR, setF]; done) | rfl)))
set_option maxHeartbeats 16000000 in
theorem wdo4_fn (o : Rdn.Outside) (q : Request) (F : FitO o) (A : asksB q = true) (c : q.call = 4) : Fnc Tryz.prog 14 [outsV o, reqV q] (fun x obs => x = .tup [outsV (doS o q).1, resV (doS o q).2, .int .i64 0] ∧ obs = []) := by
  refine Fnc.low (Fnc.wf fun hw => ?_)
  have hwd := req_words hw.2.1
  clear hw
  have hl := asks_len A
  rw [show (kl q.call).length = 1 by rw [c]; unfold kl; rfl] at hl
  rw [doS_4 c]
  have fv := woval_fn o
  rw [valO_T F] at fv
  have fa := wasks_fn q (by omega)
  rw [A] at fa
  have fx := wact_fn q.call
  rw [show actB q.call = true by rw [c]; rfl] at fx
  have fb := wbuf_fn q.call (by omega) (by omega)
  rw [show bufS q.call = 0 by rw [c]; rfl] at fb
  have fc := wocpy_fn o F
  have fn := wnumb_fn 0
  rw [numR_0] at fn
  have fm := wnumb_fn 65535
  rw [numR_f] at fm
  have f0 := dog_fn q 0 (by omega) (by omega) hwd
  rw [show (0 : Int).toNat = 0 from rfl] at f0
  have fw := wclose_fn o.files F.f q.args[0]!.val
  generalize hr : sClose o.files q.args[0]!.val = r at fw ⊢
  cases e : r.2 with
  | true =>
    rw [resB_T]
    rw [e] at fw
    refine zgo m_wdo_ok fun W S => ?_
    refine zcd (fv) ?_
    refine zcd (fa) ?_
    refine zcd (fx) ?_
    refine zcd (fb) ?_
    refine zcd (fc) ?_
    (first | refine callD (fn) ?_ | refine callDw (fn) ?_); refine zev ?_
    refine zsu ?_
    refine ev_region ?_; simp only [go_sem]
    refine zsu ?_
    refine ev_region ?_; simp only [go_sem]
    refine zsu ?_
    refine ev_region ?_; simp only [go_sem]
    refine zsu ?_
    refine ev_clo2 46 11 rfl rfl rfl rfl ?_
    refine zst ?_
    refine zcv (f0) ?_
    refine zcd (fw) ?_
    refine ev_obSub 3 (.agg [_, .sl false 4 [], _, _]) rfl (SubV.agg ⟨SubV.refl _, SubV.nil _ _, SubV.refl _, SubV.refl _, trivial⟩) rfl ?_
    refine ret m_wdo_ok [] ?_; (first | (simp only [go_sem]; done) | (simp only [go_sem]; ((try dsimp only); (repeat' (refine And.intro ?_ ?_)) <;> first | with_reducible rfl | (simp only [go_sem]; done) | (simp only [go_sem]; rfl) | (simp only [go_sem, okR, setF]; done) | (simp only [okR, setF]; (try simp only [go_sem]); first | done | rfl) | (simp only [go_sem]; simp [okR, setF]; done) | (simp [okR, setF]; done) | rfl)))
  | false =>
    rw [resB_F]
    rw [e] at fw
    refine zgo m_wdo_ok fun W S => ?_
    refine zcd (fv) ?_
    refine zcd (fa) ?_
    refine zcd (fx) ?_
    refine zcd (fb) ?_
    refine zcd (fc) ?_
    (first | refine callD (fn) ?_ | refine callDw (fn) ?_); refine zev ?_
    refine zsu ?_
    refine ev_region ?_; simp only [go_sem]
    refine zsu ?_
    refine ev_region ?_; simp only [go_sem]
    refine zsu ?_
    refine ev_region ?_; simp only [go_sem]
    refine zsu ?_
    refine ev_clo2 46 11 rfl rfl rfl rfl ?_
    refine zst ?_
    refine zcv (f0) ?_
    refine zcd (fw) ?_
    refine zcd (fm) ?_
    refine ev_obSub 3 (.agg [_, .sl false 4 [], _, _]) rfl (SubV.agg ⟨SubV.refl _, SubV.nil _ _, SubV.refl _, SubV.refl _, trivial⟩) rfl ?_
    refine ret m_wdo_ok [] ?_; (first | (simp only [go_sem]; done) | (simp only [go_sem]; ((try dsimp only); (repeat' (refine And.intro ?_ ?_)) <;> first | with_reducible rfl | (simp only [go_sem]; done) | (simp only [go_sem]; rfl) | (simp only [go_sem, okR, failR, setF]; done) | (simp only [okR, failR, setF]; (try simp only [go_sem]); first | done | rfl) | (simp only [go_sem]; simp [okR, failR, setF]; done) | (simp [okR, failR, setF]; done) | rfl)))
set_option maxHeartbeats 16000000 in
theorem wdo5_fn (o : Rdn.Outside) (q : Request) (F : FitO o) (A : asksB q = true) (c : q.call = 5) : Fnc Tryz.prog 14 [outsV o, reqV q] (fun x obs => x = .tup [outsV (doS o q).1, resV (doS o q).2, .int .i64 0] ∧ obs = []) := by
  refine Fnc.low (Fnc.wf fun hw => ?_)
  have hwd := req_words hw.2.1
  clear hw
  have hl := asks_len A
  rw [show (kl q.call).length = 2 by rw [c]; unfold kl; rfl] at hl
  rw [doS_5 c]
  have fv := woval_fn o
  rw [valO_T F] at fv
  have fa := wasks_fn q (by omega)
  rw [A] at fa
  have fx := wact_fn q.call
  rw [show actB q.call = true by rw [c]; rfl] at fx
  have fb := wbuf_fn q.call (by omega) (by omega)
  rw [show bufS q.call = 0 by rw [c]; rfl] at fb
  have fc := wocpy_fn o F
  have fn := wnumb_fn 0
  rw [numR_0] at fn
  have fm := wnumb_fn 65535
  rw [numR_f] at fm
  have f0 := dog_fn q 0 (by omega) (by omega) hwd
  rw [show (0 : Int).toNat = 0 from rfl] at f0
  have f1 := dog_fn q 1 (by omega) (by omega) hwd
  rw [show (1 : Int).toNat = 1 from rfl] at f1
  have fw := wseek_fn o.files F.f q.args[0]!.val q.args[1]!.val
  generalize hr : sSeek o.files q.args[0]!.val q.args[1]!.val = r at fw ⊢
  cases e : r.2 with
  | true =>
    rw [resB_T]
    rw [e] at fw
    refine zgo m_wdo_ok fun W S => ?_
    refine zcd (fv) ?_
    refine zcd (fa) ?_
    refine zcd (fx) ?_
    refine zcd (fb) ?_
    refine zcd (fc) ?_
    (first | refine callD (fn) ?_ | refine callDw (fn) ?_); refine zev ?_
    refine zsu ?_
    refine ev_region ?_; simp only [go_sem]
    refine zsu ?_
    refine ev_region ?_; simp only [go_sem]
    refine zsu ?_
    refine ev_region ?_; simp only [go_sem]
    refine zsu ?_
    refine ev_clo2 46 11 rfl rfl rfl rfl ?_
    refine zst ?_
    refine zcv (f0) ?_
    refine zcv (f1) ?_
    refine zcd (fw) ?_
    refine ev_obSub 3 (.agg [_, .sl false 4 [], _, _]) rfl (SubV.agg ⟨SubV.refl _, SubV.nil _ _, SubV.refl _, SubV.refl _, trivial⟩) rfl ?_
    refine ret m_wdo_ok [] ?_; (first | (simp only [go_sem]; done) | (simp only [go_sem]; ((try dsimp only); (repeat' (refine And.intro ?_ ?_)) <;> first | with_reducible rfl | (simp only [go_sem]; done) | (simp only [go_sem]; rfl) | (simp only [go_sem, okR, setF]; done) | (simp only [okR, setF]; (try simp only [go_sem]); first | done | rfl) | (simp only [go_sem]; simp [okR, setF]; done) | (simp [okR, setF]; done) | rfl)))
  | false =>
    rw [resB_F]
    rw [e] at fw
    refine zgo m_wdo_ok fun W S => ?_
    refine zcd (fv) ?_
    refine zcd (fa) ?_
    refine zcd (fx) ?_
    refine zcd (fb) ?_
    refine zcd (fc) ?_
    (first | refine callD (fn) ?_ | refine callDw (fn) ?_); refine zev ?_
    refine zsu ?_
    refine ev_region ?_; simp only [go_sem]
    refine zsu ?_
    refine ev_region ?_; simp only [go_sem]
    refine zsu ?_
    refine ev_region ?_; simp only [go_sem]
    refine zsu ?_
    refine ev_clo2 46 11 rfl rfl rfl rfl ?_
    refine zst ?_
    refine zcv (f0) ?_
    refine zcv (f1) ?_
    refine zcd (fw) ?_
    refine zcd (fm) ?_
    refine ev_obSub 3 (.agg [_, .sl false 4 [], _, _]) rfl (SubV.agg ⟨SubV.refl _, SubV.nil _ _, SubV.refl _, SubV.refl _, trivial⟩) rfl ?_
    refine ret m_wdo_ok [] ?_; (first | (simp only [go_sem]; done) | (simp only [go_sem]; ((try dsimp only); (repeat' (refine And.intro ?_ ?_)) <;> first | with_reducible rfl | (simp only [go_sem]; done) | (simp only [go_sem]; rfl) | (simp only [go_sem, okR, failR, setF]; done) | (simp only [okR, failR, setF]; (try simp only [go_sem]); first | done | rfl) | (simp only [go_sem]; simp [okR, failR, setF]; done) | (simp [okR, failR, setF]; done) | rfl)))
set_option maxHeartbeats 16000000 in
theorem wdo6_fn (o : Rdn.Outside) (q : Request) (F : FitO o) (A : asksB q = true) (c : q.call = 6) : Fnc Tryz.prog 14 [outsV o, reqV q] (fun x obs => x = .tup [outsV (doS o q).1, resV (doS o q).2, .int .i64 0] ∧ obs = []) := by
  refine Fnc.low (Fnc.wf fun hw => ?_)
  have hwd := req_words hw.2.1
  clear hw
  have hl := asks_len A
  rw [show (kl q.call).length = 0 by rw [c]; unfold kl; rfl] at hl
  rw [doS_6 c]
  have fv := woval_fn o
  rw [valO_T F] at fv
  have fa := wasks_fn q (by omega)
  rw [A] at fa
  have fx := wact_fn q.call
  rw [show actB q.call = true by rw [c]; rfl] at fx
  have fb := wbuf_fn q.call (by omega) (by omega)
  rw [show bufS q.call = 0 by rw [c]; rfl] at fb
  have fc := wocpy_fn o F
  have fn := wnumb_fn 0
  rw [numR_0] at fn
  have fm := wnumb_fn 65535
  rw [numR_f] at fm
  have fw := wfirst_fn o.clock
  generalize hr : sFirst o.clock = r at fw ⊢
  cases e : r.2.2 with
  | true =>
    rw [resB_T]
    rw [e] at fw
    refine zgo m_wdo_ok fun W S => ?_
    refine zcd (fv) ?_
    refine zcd (fa) ?_
    refine zcd (fx) ?_
    refine zcd (fb) ?_
    refine zcd (fc) ?_
    refine zcd (fn) ?_
    refine zcd (fw) ?_
    refine ev_obSub 3 (.agg [_, .sl false 4 [], _, _]) rfl (SubV.agg ⟨SubV.refl _, SubV.nil _ _, SubV.refl _, SubV.refl _, trivial⟩) rfl ?_
    refine ret m_wdo_ok [] ?_; (first | (simp only [go_sem]; done) | (simp only [go_sem]; ((try dsimp only); (repeat' (refine And.intro ?_ ?_)) <;> first | with_reducible rfl | (simp only [go_sem]; done) | (simp only [go_sem]; rfl) | (simp only [go_sem, okR, setF]; done) | (simp only [okR, setF]; (try simp only [go_sem]); first | done | rfl) | (simp only [go_sem]; simp [okR, setF]; done) | (simp [okR, setF]; done) | rfl)))
  | false =>
    rw [resB_F]
    rw [e] at fw
    refine zgo m_wdo_ok fun W S => ?_
    refine zcd (fv) ?_
    refine zcd (fa) ?_
    refine zcd (fx) ?_
    refine zcd (fb) ?_
    refine zcd (fc) ?_
    refine zcd (fn) ?_
    refine zcd (fw) ?_
    refine zcd (fm) ?_
    refine ev_obSub 3 (.agg [_, .sl false 4 [], _, _]) rfl (SubV.agg ⟨SubV.refl _, SubV.nil _ _, SubV.refl _, SubV.refl _, trivial⟩) rfl ?_
    refine ret m_wdo_ok [] ?_; (first | (simp only [go_sem]; done) | (simp only [go_sem]; ((try dsimp only); (repeat' (refine And.intro ?_ ?_)) <;> first | with_reducible rfl | (simp only [go_sem]; done) | (simp only [go_sem]; rfl) | (simp only [go_sem, okR, failR, setF]; done) | (simp only [okR, failR, setF]; (try simp only [go_sem]); first | done | rfl) | (simp only [go_sem]; simp [okR, failR, setF]; done) | (simp [okR, failR, setF]; done) | rfl)))
set_option maxHeartbeats 16000000 in
theorem wdo7_fn (o : Rdn.Outside) (q : Request) (F : FitO o) (A : asksB q = true) (c : q.call = 7) : Fnc Tryz.prog 14 [outsV o, reqV q] (fun x obs => x = .tup [outsV (doS o q).1, resV (doS o q).2, .int .i64 0] ∧ obs = []) := by
  refine Fnc.low (Fnc.wf fun hw => ?_)
  have hwd := req_words hw.2.1
  clear hw
  have hl := asks_len A
  rw [show (kl q.call).length = 0 by rw [c]; unfold kl; rfl] at hl
  rw [doS_7 c]
  have fv := woval_fn o
  rw [valO_T F] at fv
  have fa := wasks_fn q (by omega)
  rw [A] at fa
  have fx := wact_fn q.call
  rw [show actB q.call = true by rw [c]; rfl] at fx
  have fb := wbuf_fn q.call (by omega) (by omega)
  rw [show bufS q.call = 0 by rw [c]; rfl] at fb
  have fc := wocpy_fn o F
  have fn := wnumb_fn 0
  rw [numR_0] at fn
  have fm := wnumb_fn 65535
  rw [numR_f] at fm
  have fw := wfirst_fn o.random
  generalize hr : sFirst o.random = r at fw ⊢
  cases e : r.2.2 with
  | true =>
    rw [resB_T]
    rw [e] at fw
    refine zgo m_wdo_ok fun W S => ?_
    refine zcd (fv) ?_
    refine zcd (fa) ?_
    refine zcd (fx) ?_
    refine zcd (fb) ?_
    refine zcd (fc) ?_
    refine zcd (fn) ?_
    refine zcd (fw) ?_
    refine ev_obSub 3 (.agg [_, .sl false 4 [], _, _]) rfl (SubV.agg ⟨SubV.refl _, SubV.nil _ _, SubV.refl _, SubV.refl _, trivial⟩) rfl ?_
    refine ret m_wdo_ok [] ?_; (first | (simp only [go_sem]; done) | (simp only [go_sem]; ((try dsimp only); (repeat' (refine And.intro ?_ ?_)) <;> first | with_reducible rfl | (simp only [go_sem]; done) | (simp only [go_sem]; rfl) | (simp only [go_sem, okR, setF]; done) | (simp only [okR, setF]; (try simp only [go_sem]); first | done | rfl) | (simp only [go_sem]; simp [okR, setF]; done) | (simp [okR, setF]; done) | rfl)))
  | false =>
    rw [resB_F]
    rw [e] at fw
    refine zgo m_wdo_ok fun W S => ?_
    refine zcd (fv) ?_
    refine zcd (fa) ?_
    refine zcd (fx) ?_
    refine zcd (fb) ?_
    refine zcd (fc) ?_
    refine zcd (fn) ?_
    refine zcd (fw) ?_
    refine zcd (fm) ?_
    refine ev_obSub 3 (.agg [_, .sl false 4 [], _, _]) rfl (SubV.agg ⟨SubV.refl _, SubV.nil _ _, SubV.refl _, SubV.refl _, trivial⟩) rfl ?_
    refine ret m_wdo_ok [] ?_; (first | (simp only [go_sem]; done) | (simp only [go_sem]; ((try dsimp only); (repeat' (refine And.intro ?_ ?_)) <;> first | with_reducible rfl | (simp only [go_sem]; done) | (simp only [go_sem]; rfl) | (simp only [go_sem, okR, failR, setF]; done) | (simp only [okR, failR, setF]; (try simp only [go_sem]); first | done | rfl) | (simp only [go_sem]; simp [okR, failR, setF]; done) | (simp [okR, failR, setF]; done) | rfl)))
set_option maxHeartbeats 16000000 in
theorem wdo13_fn (o : Rdn.Outside) (q : Request) (F : FitO o) (A : asksB q = true) (c : q.call = 13) : Fnc Tryz.prog 14 [outsV o, reqV q] (fun x obs => x = .tup [outsV (doS o q).1, resV (doS o q).2, .int .i64 0] ∧ obs = []) := by
  refine Fnc.low (Fnc.wf fun hw => ?_)
  have hwd := req_words hw.2.1
  clear hw
  have hl := asks_len A
  rw [show (kl q.call).length = 3 by rw [c]; unfold kl; rfl] at hl
  rw [doS_13 c]
  have fv := woval_fn o
  rw [valO_T F] at fv
  have fa := wasks_fn q (by omega)
  rw [A] at fa
  have fx := wact_fn q.call
  rw [show actB q.call = true by rw [c]; rfl] at fx
  have fb := wbuf_fn q.call (by omega) (by omega)
  rw [show bufS q.call = 1 by rw [c]; rfl] at fb
  have fc := wocpy_fn o F
  have fn := wnumb_fn 0
  rw [numR_0] at fn
  have fm := wnumb_fn 65535
  rw [numR_f] at fm
  have f0 := dog_fn q 0 (by omega) (by omega) hwd
  rw [show (0 : Int).toNat = 0 from rfl] at f0
  have hd0 := fit_data (asks_fit A).1
  have hd : q.data.length ≤ 100000 := by omega
  have fw := wsend_fn o.outputs q.args[0]!.val q.data (by have := F.n; omega) F.short (by omega)
  generalize hr : sSend o.outputs q.args[0]!.val q.data = r at fw ⊢
  have fk := wnumb_fn r.2.1
  cases e : r.2.2 with
  | true =>
    rw [resB_T]
    rw [e] at fw
    refine zgo m_wdo_ok fun W S => ?_
    refine zcd (fv) ?_
    refine zcd (fa) ?_
    refine zcd (fx) ?_
    refine zcd (fb) ?_
    refine zcd (fc) ?_
    (first | refine callD (fn) ?_ | refine callDw (fn) ?_); refine zev ?_
    refine zsu ?_
    refine ev_region ?_; simp only [go_sem]
    refine zsu ?_
    refine ev_region ?_; simp only [go_sem]
    refine zsu ?_
    refine ev_region ?_; simp only [go_sem]
    refine zsu ?_
    refine ev_clo2 46 11 rfl rfl rfl rfl ?_
    refine zst ?_
    refine zcv (f0) ?_
    refine zcd (fw) ?_
    refine zcd (fk) ?_
    refine ev_obSub 3 (.agg [_, .sl false 4 [], _, _]) rfl (SubV.agg ⟨SubV.refl _, SubV.nil _ _, SubV.refl _, SubV.refl _, trivial⟩) rfl ?_
    refine ret m_wdo_ok [] ?_; (first | (simp only [go_sem]; done) | (simp only [go_sem]; ((try dsimp only); (repeat' (refine And.intro ?_ ?_)) <;> first | with_reducible rfl | (simp only [go_sem]; done) | (simp only [go_sem]; rfl) | (simp only [go_sem, okR, setF]; done) | (simp only [okR, setF]; (try simp only [go_sem]); first | done | rfl) | (simp only [go_sem]; simp [okR, setF]; done) | (simp [okR, setF]; done) | rfl)))
  | false =>
    rw [resB_F]
    rw [e] at fw
    refine zgo m_wdo_ok fun W S => ?_
    refine zcd (fv) ?_
    refine zcd (fa) ?_
    refine zcd (fx) ?_
    refine zcd (fb) ?_
    refine zcd (fc) ?_
    (first | refine callD (fn) ?_ | refine callDw (fn) ?_); refine zev ?_
    refine zsu ?_
    refine ev_region ?_; simp only [go_sem]
    refine zsu ?_
    refine ev_region ?_; simp only [go_sem]
    refine zsu ?_
    refine ev_region ?_; simp only [go_sem]
    refine zsu ?_
    refine ev_clo2 46 11 rfl rfl rfl rfl ?_
    refine zst ?_
    refine zcv (f0) ?_
    refine zcd (fw) ?_
    refine zcd (fk) ?_
    refine zcd (fm) ?_
    refine ev_obSub 3 (.agg [_, .sl false 4 [], _, _]) rfl (SubV.agg ⟨SubV.refl _, SubV.nil _ _, SubV.refl _, SubV.refl _, trivial⟩) rfl ?_
    refine ret m_wdo_ok [] ?_; (first | (simp only [go_sem]; done) | (simp only [go_sem]; ((try dsimp only); (repeat' (refine And.intro ?_ ?_)) <;> first | with_reducible rfl | (simp only [go_sem]; done) | (simp only [go_sem]; rfl) | (simp only [go_sem, okR, failR, setF]; done) | (simp only [okR, failR, setF]; (try simp only [go_sem]); first | done | rfl) | (simp only [go_sem]; simp [okR, failR, setF]; done) | (simp [okR, failR, setF]; done) | rfl)))
set_option maxHeartbeats 16000000 in
theorem wdo14_fn (o : Rdn.Outside) (q : Request) (F : FitO o) (A : asksB q = true) (c : q.call = 14) (h16 : q.args[2]!.val ≤ 16) : Fnc Tryz.prog 14 [outsV o, reqV q] (fun x obs => x = .tup [outsV (doS o q).1, resV (doS o q).2, .int .i64 0] ∧ obs = []) := by
  refine Fnc.low (Fnc.wf fun hw => ?_)
  have hwd := req_words hw.2.1
  clear hw
  have hl := asks_len A
  rw [show (kl q.call).length = 3 by rw [c]; unfold kl; rfl] at hl
  rw [doS_14 c]
  have fv := woval_fn o
  rw [valO_T F] at fv
  have fa := wasks_fn q (by omega)
  rw [A] at fa
  have fx := wact_fn q.call
  rw [show actB q.call = true by rw [c]; rfl] at fx
  have fb := wbuf_fn q.call (by omega) (by omega)
  rw [show bufS q.call = 2 by rw [c]; rfl] at fb
  have fc := wocpy_fn o F
  have fn := wnumb_fn 0
  rw [numR_0] at fn
  have fm := wnumb_fn 65535
  rw [numR_f] at fm
  have f0 := dog_fn q 0 (by omega) (by omega) hwd
  rw [show (0 : Int).toNat = 0 from rfl] at f0
  have f2 := dog_fn q 2 (by omega) (by omega) hwd
  rw [show (2 : Int).toNat = 2 from rfl] at f2
  have fw := recvG_fn o.inputs q.args[0]!.val q.args[2]!.val (by have := F.i; omega) (fun w hw => by have := F.w w hw; omega)
  generalize hr : sRecv o.inputs q.args[0]!.val q.args[2]!.val = r at fw ⊢
  have fk := wnumb_fn (r.2.1.length : Int)
  cases e : r.2.2 with
  | true =>
    rw [resB_T]
    rw [e] at fw
    refine zgo m_wdo_ok fun W S => ?_
    refine zcd (fv) ?_
    refine zcd (fa) ?_
    refine zcd (fx) ?_
    refine zcd (fb) ?_
    refine zcd (fc) ?_
    (first | refine callD (fn) ?_ | refine callDw (fn) ?_); refine zev ?_
    refine zsu ?_
    refine ev_region ?_; simp only [go_sem]
    refine zsu ?_
    refine ev_region ?_; simp only [go_sem]
    refine zsu ?_
    refine ev_region ?_; simp only [go_sem]
    refine zsu ?_
    refine ev_clo2 46 11 rfl rfl rfl rfl ?_
    refine zst ?_
    refine zcv (f0) ?_
    refine zcv (f2) ?_
    refine zcd (fw) ?_
    refine zcd (fk) ?_
    refine ret m_wdo_ok [] ?_; (first | (simp only [go_sem]; done) | (simp only [go_sem]; ((try dsimp only); (repeat' (refine And.intro ?_ ?_)) <;> first | with_reducible rfl | (simp only [go_sem]; done) | (simp only [go_sem]; rfl) | (simp only [go_sem, okR, setF]; done) | (simp only [okR, setF]; (try simp only [go_sem]); first | done | rfl) | (simp only [go_sem]; simp [okR, setF]; done) | (simp [okR, setF]; done) | rfl)))
  | false =>
    rw [resB_F]
    rw [e] at fw
    refine zgo m_wdo_ok fun W S => ?_
    refine zcd (fv) ?_
    refine zcd (fa) ?_
    refine zcd (fx) ?_
    refine zcd (fb) ?_
    refine zcd (fc) ?_
    (first | refine callD (fn) ?_ | refine callDw (fn) ?_); refine zev ?_
    refine zsu ?_
    refine ev_region ?_; simp only [go_sem]
    refine zsu ?_
    refine ev_region ?_; simp only [go_sem]
    refine zsu ?_
    refine ev_region ?_; simp only [go_sem]
    refine zsu ?_
    refine ev_clo2 46 11 rfl rfl rfl rfl ?_
    refine zst ?_
    refine zcv (f0) ?_
    refine zcv (f2) ?_
    refine zcd (fw) ?_
    refine zcd (fk) ?_
    refine zcd (fm) ?_
    refine ev_obSub 3 (.agg [_, .sl false 4 [], _, _]) rfl (SubV.agg ⟨SubV.refl _, SubV.nil _ _, SubV.refl _, SubV.refl _, trivial⟩) rfl ?_
    refine ret m_wdo_ok [] ?_; (first | (simp only [go_sem]; done) | (simp only [go_sem]; ((try dsimp only); (repeat' (refine And.intro ?_ ?_)) <;> first | with_reducible rfl | (simp only [go_sem]; done) | (simp only [go_sem]; rfl) | (simp only [go_sem, okR, failR, setF]; done) | (simp only [okR, failR, setF]; (try simp only [go_sem]); first | done | rfl) | (simp only [go_sem]; simp [okR, failR, setF]; done) | (simp [okR, failR, setF]; done) | rfl)))
end Go.Proofs.YtkfpcgkmemfdaaaGreat
