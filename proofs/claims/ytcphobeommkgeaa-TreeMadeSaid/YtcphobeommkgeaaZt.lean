/- The steps that are taken at every place, told once: each theorem's last argument is made by the tactics written here. -/
import Derived.Test.YtcphobeommkgeaaNr
namespace Rdn.Dp
open Go Go.RowKit Rdn
structure Zb (P : Prop) : Type where
  h : P
/-- Run on. -/
theorem zst {P Q : Prop} (k : P) (h : Zb P → Q := by intro zk; (repeat (first | refine And.intro (by omega) ?_ | refine And.intro rfl ?_ | refine ev_ctl rfl rfl ?_ | refine evr_nil ?_ | refine evw_nil (by kernel_rfl) ?_ | (simp (disch := omega) only [takeAll, Nat.min_eq_left, Nat.min_eq_right, if_pos, if_neg, getD_map, wrapI64, modIn, fdivE, tmodE, tdivE, decT, decF, beqT, beqF, bneT, bneF, Int.toNat_natCast]; try simp only [go_sem]) | (refine ev_condTb rfl ?_ ?_; · (simp <;> omega)) | (refine ev_condFb rfl ?_ ?_; · (simp <;> omega)) | ((first | refine ev_region ?_ | refine evr_go rfl ?_ | refine evw_go rfl ?_ | refine ev_dr0 mixed rfl (by kernel_rfl) ?_ | refine ev_dr1 mixed rfl (by kernel_rfl) ?_ | refine ev_dr2 mixed rfl (by kernel_rfl) ?_); simp only [go_sem]))); exact zk.h) : Q := h ⟨k⟩
/-- Run on, drawn regions apart. -/
theorem zso {P Q : Prop} (k : P) (h : Zb P → Q := by intro zk; (repeat (first | refine And.intro (by omega) ?_ | refine And.intro rfl ?_ | refine ev_ctl rfl rfl ?_ | refine evr_nil ?_ | refine evw_nil (by kernel_rfl) ?_ | (simp (disch := omega) only [takeAll, Nat.min_eq_left, Nat.min_eq_right, if_pos, if_neg, getD_map, wrapI64, modIn, fdivE, tmodE, tdivE, decT, decF, beqT, beqF, bneT, bneF, Int.toNat_natCast]; try simp only [go_sem]) | (refine ev_condTb rfl ?_ ?_; · (simp <;> omega)) | (refine ev_condFb rfl ?_ ?_; · (simp <;> omega)) | ((first | refine ev_region ?_ | refine evr_go rfl ?_ | refine evw_go rfl ?_); simp only [go_sem]))); exact zk.h) : Q := h ⟨k⟩
/-- Decide conditions. -/
theorem zev {P Q : Prop} (k : P) (h : Zb P → Q := by intro zk; simp only [go_sem]; (repeat (first | refine And.intro (by omega) ?_ | refine And.intro rfl ?_ | (simp (disch := omega) only [takeAll, Nat.min_eq_left, Nat.min_eq_right, if_pos, if_neg, getD_map, wrapI64, modIn, fdivE, tmodE, tdivE, decT, decF, beqT, beqF, bneT, bneF, Int.toNat_natCast]; try simp only [go_sem]))); exact zk.h) : Q := h ⟨k⟩
end Rdn.Dp
