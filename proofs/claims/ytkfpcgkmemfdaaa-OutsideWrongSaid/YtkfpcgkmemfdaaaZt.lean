/- (second edition) The steps that are taken at every place, told once: each theorem's last argument is made by the tactics written here. -/
import Derived.Test.YtkfpcgkmemfdaaaNr
namespace Rdn.Dp
open Go Go.RowKit Rdn
structure Zb (P : Prop) : Type where
  h : P
/-- Run on. -/
theorem zst {P Q : Prop} (k : P) (h : Zb P → Q := by intro zk; (repeat (first | refine And.intro (by omega) ?_ | refine And.intro rfl ?_ | refine ev_ctl rfl rfl ?_ | refine evr_nil ?_ | refine evw_nil (by kernel_rfl) ?_ | (simp (disch := omega) only [takeAll, Nat.min_eq_left, Nat.min_eq_right, if_pos, if_neg, getD_map, wrapI64, modIn, fdivE, tmodE, tdivE, decT, decF, beqT, beqF, bneT, bneF, Int.toNat_natCast]; try simp only [go_sem]) | (refine ev_condTb rfl ?_ ?_; · (simp <;> omega)) | (refine ev_condFb rfl ?_ ?_; · (simp <;> omega)) | ((first | refine ev_region ?_ | refine evr_go rfl ?_ | refine evw_go rfl ?_ | refine ev_dr0 mixed rfl (by kernel_rfl) ?_ | refine ev_dr1 mixed rfl (by kernel_rfl) ?_ | refine ev_dr2 mixed rfl (by kernel_rfl) ?_); simp only [go_sem]))); exact zk.h) : Q := h ⟨k⟩
/-- Run on, drawn regions apart. -/
theorem zso {P Q : Prop} (k : P) (h : Zb P → Q := by intro zk; (repeat (first | refine And.intro (by omega) ?_ | refine And.intro rfl ?_ | refine ev_ctl rfl rfl ?_ | refine evr_nil ?_ | refine evw_nil (by kernel_rfl) ?_ | (simp (disch := omega) only [takeAll, Nat.min_eq_left, Nat.min_eq_right, if_pos, if_neg, getD_map, wrapI64, modIn, fdivE, tmodE, tdivE, decT, decF, beqT, beqF, bneT, bneF, Int.toNat_natCast]; try simp only [go_sem]) | (refine ev_condTb rfl ?_ ?_; · (simp <;> omega)) | (refine ev_condFb rfl ?_ ?_; · (simp <;> omega)) | ((first | refine ev_region ?_ | refine evr_go rfl ?_ | refine evw_go rfl ?_); simp only [go_sem]))); exact zk.h) : Q := h ⟨k⟩
/-- Decide conditions. -/
theorem zev {P Q : Prop} (k : P) (h : Zb P → Q := by intro zk; simp only [go_sem]; (repeat (first | refine And.intro (by omega) ?_ | refine And.intro rfl ?_ | (simp (disch := omega) only [takeAll, Nat.min_eq_left, Nat.min_eq_right, if_pos, if_neg, getD_map, wrapI64, modIn, fdivE, tmodE, tdivE, decT, decF, beqT, beqF, bneT, bneF, Int.toNat_natCast]; try simp only [go_sem]))); exact zk.h) : Q := h ⟨k⟩
/-- A last goal. -/
theorem zfn {P : Prop} (h : P := by (first | (simp only [go_sem]; done) | (simp only [go_sem]; ((try dsimp only); (repeat' (refine And.intro ?_ ?_)) <;> first | with_reducible rfl | (simp only [go_sem]; done) | (simp only [go_sem]; rfl) | (simp only []; (try simp only [go_sem]); first | done | rfl) | (simp only [go_sem]; simp []; done) | (simp []; done) | rfl)))) : P := h
/-- A last goal, by what is told. -/
theorem zfh {P R : Prop} (r : R) (h : Zb R → P := by intro zr; have zh := zr.h; (first | (simp only [go_sem]; done) | (simp only [go_sem]; ((try dsimp only); (repeat' (refine And.intro ?_ ?_)) <;> first | with_reducible rfl | (simp only [go_sem]; done) | (simp only [go_sem]; rfl) | (simp only [go_sem, zh]; done) | (simp only [zh]; (try simp only [go_sem]); first | done | rfl) | (simp only [go_sem]; simp [zh]; done) | (simp [zh]; done) | rfl)))) : P := h ⟨r⟩
theorem zna {P R : Prop} (r : R) (h : Zb R → P := by intro zr; have zh := zr.h; (first | rfl | (simp only [go_sem]; done) | (simp only [go_sem]; simp only [zh]; done) | (simp only [zh]; done) | (simp only [go_sem]; simp [zh]; done) | (simp [zh]; done))) : P := h ⟨r⟩
theorem znb {P R : Prop} (r : R) (h : Zb R → P := by intro zr; have zh := zr.h; (simp only [go_sem]; (repeat' (refine And.intro ?_ ?_)) <;> first | exact trivial | with_reducible rfl | (simp only [zh]; done) | (simp only [zh]; with_reducible rfl) | (simp [zh]; done) | (simp [zh]; omega) | (simp only [zh]; rfl) | skip)) : P := h ⟨r⟩
/-- Run on, rewriting by what is told. -/
theorem zsx {P Q R : Prop} (r : R) (k : P) (h : Zb R → Zb P → Q := by intro zr zk; have zh := zr.h; (repeat (first | (simp only [zh]; try simp only [go_sem]) | refine And.intro (by omega) ?_ | refine And.intro rfl ?_ | refine ev_ctl rfl rfl ?_ | refine evr_nil ?_ | refine evw_nil (by kernel_rfl) ?_ | (simp (disch := omega) only [takeAll, Nat.min_eq_left, Nat.min_eq_right, if_pos, if_neg, getD_map, wrapI64, modIn, fdivE, tmodE, tdivE, decT, decF, beqT, beqF, bneT, bneF, Int.toNat_natCast]; try simp only [go_sem]) | (refine ev_condTb rfl ?_ ?_; · (simp <;> omega)) | (refine ev_condFb rfl ?_ ?_; · (simp <;> omega)) | ((first | refine ev_region ?_ | refine evr_go rfl ?_ | refine evw_go rfl ?_ | refine ev_dr0 mixed rfl (by kernel_rfl) ?_ | refine ev_dr1 mixed rfl (by kernel_rfl) ?_ | refine ev_dr2 mixed rfl (by kernel_rfl) ?_); simp only [go_sem]))); exact zk.h) : Q := h ⟨r⟩ ⟨k⟩
/-! Short forms of compiled bodies. -/
abbrev Qp (d : Nat) (m : POp) : RO := ⟨some d, none, .p m⟩
abbrev Qw (d : Nat) (m : MOp) : RO := ⟨some d, none, .m m⟩
abbrev Qq (d : Nat) (f : FuncId) (xs : List X) : RO := ⟨some d, none, .call f xs⟩
abbrev Q0 (d i : Nat) (m : POp) : RO := ⟨some d, some (i, false), .p m⟩
abbrev Q1 (d i : Nat) (m : POp) : RO := ⟨some d, some (i, true), .p m⟩
abbrev Qm (d x : Nat) : RO := ⟨some d, none, .p (.mov (.t x))⟩
abbrev Qc (d : Nat) (c : V) : RO := ⟨some d, none, .p (.mov (.c c))⟩
abbrev Ql (d n x : Nat) : RO := ⟨some d, none, .p (.load false n (.t x))⟩
abbrev QL (d n x : Nat) : RO := ⟨some d, none, .p (.load true n (.t x))⟩
abbrev Qf (d i j x : Nat) : RO := ⟨some d, none, .p (.fieldA i j (.t x))⟩
abbrev Qs (n x y : Nat) : RO := ⟨none, none, .m (.store n (.t x) (.t y))⟩
abbrev Qb (d : Nat) (o : BinOp) (x y : Nat) : RO := ⟨some d, none, .p (.bin 0 o (.t x) (.t y))⟩
abbrev Qk (d : Nat) (o : BinOp) (x : Nat) (c : Int) : RO := ⟨some d, none, .p (.bin 0 o (.t x) (.c (.int .i64 c)))⟩
abbrev QB (d : Nat) (o : BinOp) (x : Nat) (c : V) : RO := ⟨some d, none, .p (.bin 0 o (.t x) (.c c))⟩
abbrev Qn (d x : Nat) : RO := ⟨some d, none, .p (.len (.t x))⟩
abbrev Qe (d x i : Nat) : RO := ⟨some d, none, .p (.ext (.t x) i)⟩
abbrev Qx (d n a b : Nat) : RO := ⟨some d, none, .p (.idxA n (.t a) (.t b))⟩
abbrev Qt (d a b : Nat) : RO := ⟨some d, none, .p (.pick (.t a) (.c (.bool true)) (.t b))⟩
abbrev Qu (d a b : Nat) : RO := ⟨some d, none, .p (.pick (.t a) (.t b) (.c (.bool false)))⟩
abbrev Qr (l : List RO) (c : MC) : MC := .seq (.reg l) c
abbrev Qi (n : Int) : X := .c (.int .i64 n)
/-- A walk begins. -/
theorem zgo {P : Program} {f : FuncId} {n : Nat} {m : MC} {rs : List POp} {xs : List V} {R0 : V → List Ob → Prop} {p : World → (Nat → Prop) → Prop} (hc : compF P f = some (n, m, rs)) (k : ∀ W S, p W S) (h : Zb (compF P f = some (n, m, rs)) → Zb (∀ W S, p W S) → Fnc P f xs R0 := by
  intro zc zk; refine Fnc.intro zc.h (by simp) fun W S => ?_; simp only [ents, Nat.zero_add, Nat.reduceAdd, Qm, Qc, Ql, QL, Qf, Qs, Qb, Qk, QB, Qn, Qe, Qx, Qt, Qu, Q0, Q1, Qp, Qw, Qq, Qr, Qi]; (repeat (first | refine And.intro (by omega) ?_ | refine And.intro rfl ?_ | refine ev_ctl rfl rfl ?_ | refine evr_nil ?_ | refine evw_nil (by kernel_rfl) ?_ | (simp (disch := omega) only [takeAll, Nat.min_eq_left, Nat.min_eq_right, if_pos, if_neg, getD_map, wrapI64, modIn, fdivE, tmodE, tdivE, decT, decF, beqT, beqF, bneT, bneF, Int.toNat_natCast]; try simp only [go_sem]) | (refine ev_condTb rfl ?_ ?_; · (simp <;> omega)) | (refine ev_condFb rfl ?_ ?_; · (simp <;> omega)) | ((first | refine ev_region ?_ | refine evr_go rfl ?_ | refine evw_go rfl ?_ | refine ev_dr0 mixed rfl (by kernel_rfl) ?_ | refine ev_dr1 mixed rfl (by kernel_rfl) ?_ | refine ev_dr2 mixed rfl (by kernel_rfl) ?_); simp only [go_sem]))); exact zk.h W S) : Fnc P f xs R0 := h ⟨hc⟩ ⟨k⟩
theorem zgM {P : Program} {f : FuncId} {n : Nat} {m : MC} {rs : List POp} {T : TypeId} {d : V} {xs : List V} {R0 : V → List Ob → V → Prop} {p : World → (Nat → Prop) → Nat → Prop} (hc : compF P f = some (n, m, rs)) (k : ∀ W S b0, b0 < W.heap.size → p W S b0) (h : Zb (compF P f = some (n, m, rs)) → Zb (∀ W S b0, b0 < W.heap.size → p W S b0) → FncM P f T d xs R0 := by
  intro zc zk; refine FncM.intro zc.h (by simp) fun W S b0 hb0 => ?_; simp only [ents, Nat.zero_add, Nat.reduceAdd, Qm, Qc, Ql, QL, Qf, Qs, Qb, Qk, QB, Qn, Qe, Qx, Qt, Qu, Q0, Q1, Qp, Qw, Qq, Qr, Qi]; (repeat (first | refine And.intro (by omega) ?_ | refine And.intro rfl ?_ | refine ev_ctl rfl rfl ?_ | refine evr_nil ?_ | refine evw_nil (by kernel_rfl) ?_ | (simp (disch := omega) only [takeAll, Nat.min_eq_left, Nat.min_eq_right, if_pos, if_neg, getD_map, wrapI64, modIn, fdivE, tmodE, tdivE, decT, decF, beqT, beqF, bneT, bneF, Int.toNat_natCast]; try simp only [go_sem]) | (refine ev_condTb rfl ?_ ?_; · (simp <;> omega)) | (refine ev_condFb rfl ?_ ?_; · (simp <;> omega)) | ((first | refine ev_region ?_ | refine evr_go rfl ?_ | refine evw_go rfl ?_ | refine ev_dr0 mixed rfl (by kernel_rfl) ?_ | refine ev_dr1 mixed rfl (by kernel_rfl) ?_ | refine ev_dr2 mixed rfl (by kernel_rfl) ?_); simp only [go_sem]))); exact zk.h W S b0 hb0) : FncM P f T d xs R0 := h ⟨hc⟩ ⟨k⟩
/-- A call, and on. -/
theorem zcd {P Q R : Prop} (r : R) (k : P) (h : Zb R → Zb P → Q := by intro zr zk; (first | refine callD zr.h ?_ | refine callDw zr.h ?_); simp only [go_sem]; (repeat (first | refine And.intro (by omega) ?_ | refine And.intro rfl ?_ | refine ev_ctl rfl rfl ?_ | refine evr_nil ?_ | refine evw_nil (by kernel_rfl) ?_ | (simp (disch := omega) only [takeAll, Nat.min_eq_left, Nat.min_eq_right, if_pos, if_neg, getD_map, wrapI64, modIn, fdivE, tmodE, tdivE, decT, decF, beqT, beqF, bneT, bneF, Int.toNat_natCast]; try simp only [go_sem]) | (refine ev_condTb rfl ?_ ?_; · (simp <;> omega)) | (refine ev_condFb rfl ?_ ?_; · (simp <;> omega)) | ((first | refine ev_region ?_ | refine evr_go rfl ?_ | refine evw_go rfl ?_ | refine ev_dr0 mixed rfl (by kernel_rfl) ?_ | refine ev_dr1 mixed rfl (by kernel_rfl) ?_ | refine ev_dr2 mixed rfl (by kernel_rfl) ?_); simp only [go_sem]))); exact zk.h) : Q := h ⟨r⟩ ⟨k⟩
theorem zcx {P Q R : Prop} (r : R) (k : P) (h : Zb R → Zb P → Q := by intro zr zk; (first | refine callX zr.h ?_ | refine callXw zr.h ?_); simp only [go_sem]; (repeat (first | refine And.intro (by omega) ?_ | refine And.intro rfl ?_ | refine ev_ctl rfl rfl ?_ | refine evr_nil ?_ | refine evw_nil (by kernel_rfl) ?_ | (simp (disch := omega) only [takeAll, Nat.min_eq_left, Nat.min_eq_right, if_pos, if_neg, getD_map, wrapI64, modIn, fdivE, tmodE, tdivE, decT, decF, beqT, beqF, bneT, bneF, Int.toNat_natCast]; try simp only [go_sem]) | (refine ev_condTb rfl ?_ ?_; · (simp <;> omega)) | (refine ev_condFb rfl ?_ ?_; · (simp <;> omega)) | ((first | refine ev_region ?_ | refine evr_go rfl ?_ | refine evw_go rfl ?_ | refine ev_dr0 mixed rfl (by kernel_rfl) ?_ | refine ev_dr1 mixed rfl (by kernel_rfl) ?_ | refine ev_dr2 mixed rfl (by kernel_rfl) ?_); simp only [go_sem]))); exact zk.h) : Q := h ⟨r⟩ ⟨k⟩
theorem zcv {P Q R : Prop} (r : R) (k : P) (h : Zb R → Zb P → Q := by intro zr zk; (first | refine callDv zr.h (by kernel_rfl) rfl ?_ | refine callDvw zr.h (by kernel_rfl) rfl ?_); simp only [go_sem]; (repeat (first | refine And.intro (by omega) ?_ | refine And.intro rfl ?_ | refine ev_ctl rfl rfl ?_ | refine evr_nil ?_ | refine evw_nil (by kernel_rfl) ?_ | (simp (disch := omega) only [takeAll, Nat.min_eq_left, Nat.min_eq_right, if_pos, if_neg, getD_map, wrapI64, modIn, fdivE, tmodE, tdivE, decT, decF, beqT, beqF, bneT, bneF, Int.toNat_natCast]; try simp only [go_sem]) | (refine ev_condTb rfl ?_ ?_; · (simp <;> omega)) | (refine ev_condFb rfl ?_ ?_; · (simp <;> omega)) | ((first | refine ev_region ?_ | refine evr_go rfl ?_ | refine evw_go rfl ?_ | refine ev_dr0 mixed rfl (by kernel_rfl) ?_ | refine ev_dr1 mixed rfl (by kernel_rfl) ?_ | refine ev_dr2 mixed rfl (by kernel_rfl) ?_); simp only [go_sem]))); exact zk.h) : Q := h ⟨r⟩ ⟨k⟩
theorem zcm {P Q R : Prop} (r : R) (k : P) (h : Zb R → Zb P → Q := by
  intro zr zk; (first | apply st_callMD zr.h rfl | apply evw_callM zr.h rfl)
  · (simp only [go_sem]; rfl)
  · rfl
  · (first | rfl | (simp only [go_sem]; done))
  · (first | rfl | (simp only [go_sem]; done) | (simp only [go_sem]; rfl))
  · (first | rfl | (simp only [go_sem]; done))
  · (first | rfl | (simp only [go_sem]; done) | (simp only [go_sem]; rfl))
  · (first | rfl | simp [V.pureT, V.pure, V.pures, pures_lo, pures_sls])
  (first | refine ev_all (fu := [(), (), (), (), (), (), (), ()]) ?_ | refine evw_all (md := []) (fu := [(), (), (), (), (), (), (), ()]) ?_); simp only [go_sem]; (repeat (first | refine And.intro (by omega) ?_ | refine And.intro rfl ?_ | (simp (disch := omega) only [takeAll, Nat.min_eq_left, Nat.min_eq_right, if_pos, if_neg, getD_map, wrapI64, modIn, fdivE, tmodE, tdivE, decT, decF, beqT, beqF, bneT, bneF, Int.toNat_natCast]; try simp only [go_sem]))); (repeat (first | refine And.intro (by omega) ?_ | refine And.intro rfl ?_ | refine ev_ctl rfl rfl ?_ | refine evr_nil ?_ | refine evw_nil (by kernel_rfl) ?_ | (simp (disch := omega) only [takeAll, Nat.min_eq_left, Nat.min_eq_right, if_pos, if_neg, getD_map, wrapI64, modIn, fdivE, tmodE, tdivE, decT, decF, beqT, beqF, bneT, bneF, Int.toNat_natCast]; try simp only [go_sem]) | (refine ev_condTb rfl ?_ ?_; · (simp <;> omega)) | (refine ev_condFb rfl ?_ ?_; · (simp <;> omega)) | ((first | refine ev_region ?_ | refine evr_go rfl ?_ | refine evw_go rfl ?_ | refine ev_dr0 mixed rfl (by kernel_rfl) ?_ | refine ev_dr1 mixed rfl (by kernel_rfl) ?_ | refine ev_dr2 mixed rfl (by kernel_rfl) ?_); simp only [go_sem]))); exact zk.h) : Q := h ⟨r⟩ ⟨k⟩
theorem zcn {P Q R : Prop} (r : R) (k : P) (h : Zb R → Zb P → Q := by
  intro zr zk; (first | apply st_callMD zr.h rfl | apply evw_callM zr.h rfl)
  · (simp only [go_sem]; rfl)
  · rfl
  · (first | rfl | (simp only [go_sem]; done))
  · (first | rfl | (simp only [go_sem]; done) | (simp only [go_sem]; rfl))
  · (first | rfl | (simp only [go_sem]; done))
  · (first | rfl | (simp only [go_sem]; done) | (simp only [go_sem]; rfl))
  · (first | rfl | simp [V.pureT, V.pure, V.pures, pures_lo, pures_sls])
  (first | refine ev_all (fu := [(), (), (), (), (), (), (), ()]) ?_ | refine evw_all (md := []) (fu := [(), (), (), (), (), (), (), ()]) ?_); simp only [go_sem]; (repeat (first | refine And.intro (by omega) ?_ | refine And.intro rfl ?_ | (simp (disch := omega) only [takeAll, Nat.min_eq_left, Nat.min_eq_right, if_pos, if_neg, getD_map, wrapI64, modIn, fdivE, tmodE, tdivE, decT, decF, beqT, beqF, bneT, bneF, Int.toNat_natCast]; try simp only [go_sem]))); exact zk.h) : Q := h ⟨r⟩ ⟨k⟩
theorem zcf {P Q R : Prop} (r : R) (k : P) (h : Zb R → Zb P → Q := by
  intro zr zk; refine evr_calmC ?_; (simp only [go_sem]; (repeat (first | refine And.intro (by omega) ?_ | refine And.intro rfl ?_ | (simp (disch := omega) only [takeAll, Nat.min_eq_left, Nat.min_eq_right, if_pos, if_neg, getD_map, wrapI64, modIn, fdivE, tmodE, tdivE, decT, decF, beqT, beqF, bneT, bneF, Int.toNat_natCast]; try simp only [go_sem])))); apply st_callMD zr.h rfl
  · (simp only [go_sem]; rfl)
  · rfl
  · (first | rfl | (simp only [go_sem]; done))
  · (first | rfl | (simp only [go_sem]; done) | (simp only [go_sem]; rfl))
  · (first | rfl | (simp only [go_sem]; done))
  · (first | rfl | (simp only [go_sem]; done) | (simp only [go_sem]; rfl))
  · (first | rfl | simp [V.pureT, V.pure, V.pures, pures_lo, pures_sls])
  (first | refine ev_all (fu := [(), (), (), (), (), (), (), ()]) ?_ | refine evw_all (md := []) (fu := [(), (), (), (), (), (), (), ()]) ?_); simp only [go_sem]; (repeat (first | refine And.intro (by omega) ?_ | refine And.intro rfl ?_ | (simp (disch := omega) only [takeAll, Nat.min_eq_left, Nat.min_eq_right, if_pos, if_neg, getD_map, wrapI64, modIn, fdivE, tmodE, tdivE, decT, decF, beqT, beqF, bneT, bneF, Int.toNat_natCast]; try simp only [go_sem]))); (repeat (first | refine And.intro (by omega) ?_ | refine And.intro rfl ?_ | refine ev_ctl rfl rfl ?_ | refine evr_nil ?_ | refine evw_nil (by kernel_rfl) ?_ | (simp (disch := omega) only [takeAll, Nat.min_eq_left, Nat.min_eq_right, if_pos, if_neg, getD_map, wrapI64, modIn, fdivE, tmodE, tdivE, decT, decF, beqT, beqF, bneT, bneF, Int.toNat_natCast]; try simp only [go_sem]) | (refine ev_condTb rfl ?_ ?_; · (simp <;> omega)) | (refine ev_condFb rfl ?_ ?_; · (simp <;> omega)) | ((first | refine ev_region ?_ | refine evr_go rfl ?_ | refine evw_go rfl ?_ | refine ev_dr0 mixed rfl (by kernel_rfl) ?_ | refine ev_dr1 mixed rfl (by kernel_rfl) ?_ | refine ev_dr2 mixed rfl (by kernel_rfl) ?_); simp only [go_sem]))); exact zk.h) : Q := h ⟨r⟩ ⟨k⟩
/-- A return. -/
theorem zrt {Q R : Prop} (r : R) (h : Zb R → Q := by intro zr; refine ret zr.h [] ?_; (first | (simp only [go_sem]; done) | (simp only [go_sem]; ((try dsimp only); (repeat' (refine And.intro ?_ ?_)) <;> first | with_reducible rfl | (simp only [go_sem]; done) | (simp only [go_sem]; rfl) | (simp only []; (try simp only [go_sem]); first | done | rfl) | (simp only [go_sem]; simp []; done) | (simp []; done) | rfl)))) : Q := h ⟨r⟩
theorem zrh {Q R T : Prop} (r : R) (t : T) (h : Zb R → Zb T → Q := by intro zq zr; have zh := zr.h; refine ret zq.h [] ?_; (first | (simp only [go_sem]; done) | (simp only [go_sem]; ((try dsimp only); (repeat' (refine And.intro ?_ ?_)) <;> first | with_reducible rfl | (simp only [go_sem]; done) | (simp only [go_sem]; rfl) | (simp only [go_sem, zh]; done) | (simp only [zh]; (try simp only [go_sem]); first | done | rfl) | (simp only [go_sem]; simp [zh]; done) | (simp [zh]; done) | rfl)))) : Q := h ⟨r⟩ ⟨t⟩
theorem zrm {Q R T : Prop} (b : T) (r : R) (h : Zb T → Zb R → Q := by
  intro zb zr; apply st_returnM zb.h zr.h []
  · (simp only [go_sem]; rfl)
  · (first | exact trivial | (simp; done))
  · (first | (simp [outOk]; done) | exact outOk1 rfl)
  · (simp only [go_sem]; (first | done | trivial | simp [V.resOk, V.ressOk, rowV, V.pures, V.pure, pures_appE, pures_lo, pures_sls]))
  · (first | (simp only [V.res, V.ress, rowV, List.idxOf?_nil, List.idxOf?_cons, List.getElem?_cons_zero, List.getElem?_cons_succ]; first | rfl | (simp only [go_sem]; rfl)) | rfl)
  · (first | (simp only [go_sem]; rfl) | rfl)
  · rfl
  · (simp only [go_sem]; (first | done | rfl))
  ((try dsimp only); (repeat' (refine And.intro ?_ ?_)) <;> first | with_reducible rfl | (simp only [go_sem]; done) | (simp only [go_sem]; rfl) | (simp only []; (try simp only [go_sem]); first | done | rfl) | (simp only [go_sem]; simp []; done) | (simp []; done) | rfl)) : Q := h ⟨b⟩ ⟨r⟩
theorem zrn {Q R T U : Prop} (b : T) (q : R) (r : U) (h : Zb T → Zb R → Zb U → Q := by
  intro zb zq zr; have zh := zr.h; apply st_returnM zb.h zq.h []
  · (simp only [go_sem]; rfl)
  · (first | exact trivial | (simp; done))
  · (first | (simp [outOk]; done) | exact outOk1 rfl)
  · (simp only [go_sem]; (first | done | trivial | simp [V.resOk, V.ressOk, rowV, V.pures, V.pure, pures_appE, pures_lo, pures_sls]))
  · (first | (simp only [V.res, V.ress, rowV, List.idxOf?_nil, List.idxOf?_cons, List.getElem?_cons_zero, List.getElem?_cons_succ]; first | rfl | (simp only [go_sem]; rfl)) | rfl)
  · (first | (simp only [go_sem]; rfl) | rfl)
  · rfl
  · (simp only [go_sem]; (first | done | rfl))
  ((try dsimp only); (repeat' (refine And.intro ?_ ?_)) <;> first | with_reducible rfl | (simp only [go_sem]; done) | (simp only [go_sem]; rfl) | (simp only [go_sem, zh]; done) | (simp only [zh]; (try simp only [go_sem]); first | done | rfl) | (simp only [go_sem]; simp [zh]; done) | (simp [zh]; done) | rfl)) : Q := h ⟨b⟩ ⟨q⟩ ⟨r⟩
/-! The next round of a loop. -/
section
variable {P : Program} {cx : Cx} {N : Nat} {Q : Exit → Act → World → Prop} {k : List It} {n : Nat} {t : List (Nat × V)} {ob : List Ob} {J : AS → Prop} {n' : Nat} {t' : List (Nat × V)} {ob' : List Ob} {R : Prop}
theorem znx (m : Nat) (j : J ⟨n', t', ob'⟩) (h : n = n' ∧ m ≤ ob.length ∧ ob.take m = ob' ∧ scpT m t' = true ∧ scpO m ob' = true ∧ Eqs t t') : Ev P cx N Q (.goal J :: k) ⟨n, t, ob⟩ := ev_next m j h.1 h.2.1 h.2.2.1 h.2.2.2.1 h.2.2.2.2.1 h.2.2.2.2.2
theorem zn0 (j : J ⟨n', t', ob'⟩) (r : R) (h : Zb R → n = n' ∧ 0 ≤ ob.length ∧ ob.take 0 = ob' ∧ scpT 0 t' = true ∧ scpO 0 ob' = true ∧ Eqs t t' := by
  intro zr; have zh := zr.h; refine ⟨rfl, by simp, ?_, by first | rfl | (simp only [go_sem]; done), by first | rfl | (simp only [go_sem]; done) | (simp only [zh]; (try simp only [go_sem]); first | done | rfl), ?_⟩
  · (first | rfl | (simp only [go_sem]; done) | (simp only [go_sem]; simp only [zh]; done) | (simp only [zh]; done) | (simp only [go_sem]; simp [zh]; done) | (simp [zh]; done))
  · (simp only [go_sem]; (repeat' (refine And.intro ?_ ?_)) <;> first | exact trivial | with_reducible rfl | (simp only [zh]; done) | (simp only [zh]; with_reducible rfl) | (simp [zh]; done) | (simp [zh]; omega) | (simp only [zh]; rfl) | skip)) : Ev P cx N Q (.goal J :: k) ⟨n, t, ob⟩ := znx 0 j (h ⟨r⟩)
theorem zn1 (j : J ⟨n', t', ob'⟩) (r : R) (h : Zb R → n = n' ∧ 1 ≤ ob.length ∧ ob.take 1 = ob' ∧ scpT 1 t' = true ∧ scpO 1 ob' = true ∧ Eqs t t' := by
  intro zr; have zh := zr.h; refine ⟨rfl, by simp, ?_, by first | rfl | (simp only [go_sem]; done), by first | rfl | (simp only [go_sem]; done) | (simp only [zh]; (try simp only [go_sem]); first | done | rfl), ?_⟩
  · (first | rfl | (simp only [go_sem]; done) | (simp only [go_sem]; simp only [zh]; done) | (simp only [zh]; done) | (simp only [go_sem]; simp [zh]; done) | (simp [zh]; done))
  · (simp only [go_sem]; (repeat' (refine And.intro ?_ ?_)) <;> first | exact trivial | with_reducible rfl | (simp only [zh]; done) | (simp only [zh]; with_reducible rfl) | (simp [zh]; done) | (simp [zh]; omega) | (simp only [zh]; rfl) | skip)) : Ev P cx N Q (.goal J :: k) ⟨n, t, ob⟩ := znx 1 j (h ⟨r⟩)
theorem zn2 (j : J ⟨n', t', ob'⟩) (r : R) (h : Zb R → n = n' ∧ 2 ≤ ob.length ∧ ob.take 2 = ob' ∧ scpT 2 t' = true ∧ scpO 2 ob' = true ∧ Eqs t t' := by
  intro zr; have zh := zr.h; refine ⟨rfl, by simp, ?_, by first | rfl | (simp only [go_sem]; done), by first | rfl | (simp only [go_sem]; done) | (simp only [zh]; (try simp only [go_sem]); first | done | rfl), ?_⟩
  · (first | rfl | (simp only [go_sem]; done) | (simp only [go_sem]; simp only [zh]; done) | (simp only [zh]; done) | (simp only [go_sem]; simp [zh]; done) | (simp [zh]; done))
  · (simp only [go_sem]; (repeat' (refine And.intro ?_ ?_)) <;> first | exact trivial | with_reducible rfl | (simp only [zh]; done) | (simp only [zh]; with_reducible rfl) | (simp [zh]; done) | (simp [zh]; omega) | (simp only [zh]; rfl) | skip)) : Ev P cx N Q (.goal J :: k) ⟨n, t, ob⟩ := znx 2 j (h ⟨r⟩)
theorem zn3 (j : J ⟨n', t', ob'⟩) (r : R) (h : Zb R → n = n' ∧ 3 ≤ ob.length ∧ ob.take 3 = ob' ∧ scpT 3 t' = true ∧ scpO 3 ob' = true ∧ Eqs t t' := by
  intro zr; have zh := zr.h; refine ⟨rfl, by simp, ?_, by first | rfl | (simp only [go_sem]; done), by first | rfl | (simp only [go_sem]; done) | (simp only [zh]; (try simp only [go_sem]); first | done | rfl), ?_⟩
  · (first | rfl | (simp only [go_sem]; done) | (simp only [go_sem]; simp only [zh]; done) | (simp only [zh]; done) | (simp only [go_sem]; simp [zh]; done) | (simp [zh]; done))
  · (simp only [go_sem]; (repeat' (refine And.intro ?_ ?_)) <;> first | exact trivial | with_reducible rfl | (simp only [zh]; done) | (simp only [zh]; with_reducible rfl) | (simp [zh]; done) | (simp [zh]; omega) | (simp only [zh]; rfl) | skip)) : Ev P cx N Q (.goal J :: k) ⟨n, t, ob⟩ := znx 3 j (h ⟨r⟩)
theorem zn4 (j : J ⟨n', t', ob'⟩) (r : R) (h : Zb R → n = n' ∧ 4 ≤ ob.length ∧ ob.take 4 = ob' ∧ scpT 4 t' = true ∧ scpO 4 ob' = true ∧ Eqs t t' := by
  intro zr; have zh := zr.h; refine ⟨rfl, by simp, ?_, by first | rfl | (simp only [go_sem]; done), by first | rfl | (simp only [go_sem]; done) | (simp only [zh]; (try simp only [go_sem]); first | done | rfl), ?_⟩
  · (first | rfl | (simp only [go_sem]; done) | (simp only [go_sem]; simp only [zh]; done) | (simp only [zh]; done) | (simp only [go_sem]; simp [zh]; done) | (simp [zh]; done))
  · (simp only [go_sem]; (repeat' (refine And.intro ?_ ?_)) <;> first | exact trivial | with_reducible rfl | (simp only [zh]; done) | (simp only [zh]; with_reducible rfl) | (simp [zh]; done) | (simp [zh]; omega) | (simp only [zh]; rfl) | skip)) : Ev P cx N Q (.goal J :: k) ⟨n, t, ob⟩ := znx 4 j (h ⟨r⟩)
theorem zn5 (j : J ⟨n', t', ob'⟩) (r : R) (h : Zb R → n = n' ∧ 5 ≤ ob.length ∧ ob.take 5 = ob' ∧ scpT 5 t' = true ∧ scpO 5 ob' = true ∧ Eqs t t' := by
  intro zr; have zh := zr.h; refine ⟨rfl, by simp, ?_, by first | rfl | (simp only [go_sem]; done), by first | rfl | (simp only [go_sem]; done) | (simp only [zh]; (try simp only [go_sem]); first | done | rfl), ?_⟩
  · (first | rfl | (simp only [go_sem]; done) | (simp only [go_sem]; simp only [zh]; done) | (simp only [zh]; done) | (simp only [go_sem]; simp [zh]; done) | (simp [zh]; done))
  · (simp only [go_sem]; (repeat' (refine And.intro ?_ ?_)) <;> first | exact trivial | with_reducible rfl | (simp only [zh]; done) | (simp only [zh]; with_reducible rfl) | (simp [zh]; done) | (simp [zh]; omega) | (simp only [zh]; rfl) | skip)) : Ev P cx N Q (.goal J :: k) ⟨n, t, ob⟩ := znx 5 j (h ⟨r⟩)
theorem zn6 (j : J ⟨n', t', ob'⟩) (r : R) (h : Zb R → n = n' ∧ 6 ≤ ob.length ∧ ob.take 6 = ob' ∧ scpT 6 t' = true ∧ scpO 6 ob' = true ∧ Eqs t t' := by
  intro zr; have zh := zr.h; refine ⟨rfl, by simp, ?_, by first | rfl | (simp only [go_sem]; done), by first | rfl | (simp only [go_sem]; done) | (simp only [zh]; (try simp only [go_sem]); first | done | rfl), ?_⟩
  · (first | rfl | (simp only [go_sem]; done) | (simp only [go_sem]; simp only [zh]; done) | (simp only [zh]; done) | (simp only [go_sem]; simp [zh]; done) | (simp [zh]; done))
  · (simp only [go_sem]; (repeat' (refine And.intro ?_ ?_)) <;> first | exact trivial | with_reducible rfl | (simp only [zh]; done) | (simp only [zh]; with_reducible rfl) | (simp [zh]; done) | (simp [zh]; omega) | (simp only [zh]; rfl) | skip)) : Ev P cx N Q (.goal J :: k) ⟨n, t, ob⟩ := znx 6 j (h ⟨r⟩)
theorem zn7 (j : J ⟨n', t', ob'⟩) (r : R) (h : Zb R → n = n' ∧ 7 ≤ ob.length ∧ ob.take 7 = ob' ∧ scpT 7 t' = true ∧ scpO 7 ob' = true ∧ Eqs t t' := by
  intro zr; have zh := zr.h; refine ⟨rfl, by simp, ?_, by first | rfl | (simp only [go_sem]; done), by first | rfl | (simp only [go_sem]; done) | (simp only [zh]; (try simp only [go_sem]); first | done | rfl), ?_⟩
  · (first | rfl | (simp only [go_sem]; done) | (simp only [go_sem]; simp only [zh]; done) | (simp only [zh]; done) | (simp only [go_sem]; simp [zh]; done) | (simp [zh]; done))
  · (simp only [go_sem]; (repeat' (refine And.intro ?_ ?_)) <;> first | exact trivial | with_reducible rfl | (simp only [zh]; done) | (simp only [zh]; with_reducible rfl) | (simp [zh]; done) | (simp [zh]; omega) | (simp only [zh]; rfl) | skip)) : Ev P cx N Q (.goal J :: k) ⟨n, t, ob⟩ := znx 7 j (h ⟨r⟩)
theorem zn8 (j : J ⟨n', t', ob'⟩) (r : R) (h : Zb R → n = n' ∧ 8 ≤ ob.length ∧ ob.take 8 = ob' ∧ scpT 8 t' = true ∧ scpO 8 ob' = true ∧ Eqs t t' := by
  intro zr; have zh := zr.h; refine ⟨rfl, by simp, ?_, by first | rfl | (simp only [go_sem]; done), by first | rfl | (simp only [go_sem]; done) | (simp only [zh]; (try simp only [go_sem]); first | done | rfl), ?_⟩
  · (first | rfl | (simp only [go_sem]; done) | (simp only [go_sem]; simp only [zh]; done) | (simp only [zh]; done) | (simp only [go_sem]; simp [zh]; done) | (simp [zh]; done))
  · (simp only [go_sem]; (repeat' (refine And.intro ?_ ?_)) <;> first | exact trivial | with_reducible rfl | (simp only [zh]; done) | (simp only [zh]; with_reducible rfl) | (simp [zh]; done) | (simp [zh]; omega) | (simp only [zh]; rfl) | skip)) : Ev P cx N Q (.goal J :: k) ⟨n, t, ob⟩ := znx 8 j (h ⟨r⟩)
end
/-- Control alone; one step. -/
theorem zsu {P Q : Prop} (k : P) (h : Zb P → Q := by intro zk; (repeat (first | refine ev_seq ?_ | refine ev_block ?_ | refine ev_skip ?_ | refine ev_inBlock ?_ | refine evr_nil ?_ | refine evw_nil (by kernel_rfl) ?_ | refine ev_exit rfl ?_ | refine ev_round ?_ | refine ev_condT rfl ?_ | refine ev_condF rfl ?_ | refine ev_condTb rfl (by first | exact decT (by omega) | exact beqT (by omega) | exact bneT (by omega) | exact notT (decF (by omega)) | exact notT (beqF (by omega))) ?_ | refine ev_condFb rfl (by first | exact decF (by omega) | exact beqF (by omega) | exact bneF (by omega) | exact notF (decT (by omega)) | exact notF (beqT (by omega))) ?_)); exact zk.h) : Q := h ⟨k⟩
theorem zs1 {P Q : Prop} (k : P) (h : Zb P → Q := by intro zk; (first | refine ev_seq ?_ | refine ev_block ?_ | refine ev_skip ?_ | refine ev_inBlock ?_ | refine evr_nil ?_ | refine evw_nil (by kernel_rfl) ?_ | refine ev_exit rfl ?_ | refine ev_round ?_ | refine ev_condT rfl ?_ | refine ev_condF rfl ?_ | refine ev_condTb rfl (by first | exact decT (by omega) | exact beqT (by omega) | exact bneT (by omega) | exact notT (decF (by omega)) | exact notT (beqF (by omega))) ?_ | refine ev_condFb rfl (by first | exact decF (by omega) | exact beqF (by omega) | exact bneF (by omega) | exact notF (decT (by omega)) | exact notF (beqT (by omega))) ?_ | ((first | refine ev_region ?_ | (refine evr_skip rfl ?_; refine ev_all (fu := [(), (), (), (), (), (), (), ()]) ?_) | (refine evw_skip rfl ?_; refine evw_all (md := []) (fu := [(), (), (), (), (), (), (), ()]) ?_) | refine evr_goP ?_ | refine evr_goM ?_ | refine evw_goP ?_ | refine evw_goM ?_ | refine ev_draw (fu := [(), (), (), (), (), (), (), ()]) mixed [] 0 rfl (by kernel_rfl) ?_ | refine ev_draw (fu := [(), (), (), (), (), (), (), ()]) mixed [] 1 rfl (by kernel_rfl) ?_ | refine ev_draw (fu := [(), (), (), (), (), (), (), ()]) mixed [] 2 rfl (by kernel_rfl) ?_); simp only [go_sem]; repeat (first | refine And.intro (by omega) ?_ | refine And.intro rfl ?_ | (simp (disch := omega) only [takeAll, Nat.min_eq_left, Nat.min_eq_right, if_pos, if_neg, getD_map, wrapI64, modIn, fdivE, tmodE, tdivE, decT, decF, beqT, beqF, bneT, bneF, Int.toNat_natCast]; try simp only [go_sem])))); exact zk.h) : Q := h ⟨k⟩
end Rdn.Dp
