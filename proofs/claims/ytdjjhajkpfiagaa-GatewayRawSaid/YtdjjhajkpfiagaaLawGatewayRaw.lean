/- GatewayRaw: for every input the law returns true and leaves its arguments as they were. From the contract of the law's walk to the given statement. No condition. -/
import Derived.Test.YtdjjhajkpfiagaaRows
import Derived.Test.YtdjjhajkpfiagaaReads
import Derived.Test.YtdjjhajkpfiagaaH7
namespace Go.Proofs.Ytdjjhajkpfiagaa.lawGatewayRaw
open Go Go.RowKit Go.ChangeShapes Go.WideShapes Go.ChangeAt Rdn
set_option linter.unusedVariables false

theorem own : ownKnob Try.prog.godebug = none := by kernel_rfl

set_option maxRecDepth 100000 in
theorem lifted (os : Os) (started : os.Started) (H : Type) (enc : TypeId × Value → H) :
    ReturnsInHanded {} Try.checked os 5 .any (Rows.gatewayRawSpec.pre6 enc Try.prog Try.f5 Rows.gatewayRawRow.domain false) (Rows.gatewayRawSpec.post enc Try.prog Try.f5 false true false false) := by
  refine returnsInHanded_of_change_sized (C := Try.checked) own started (by kernel_rfl) Try.func5
    (ChangeSpec.witness6 (enc := enc) (C := Try.checked) false ⟨#[], #[.agg #[.int .i64 0, .int .i64 0, .int .i64 0, .slice none 0 0], .int .i64 0, .slice none 0 0, .int .i64 0, .agg #[.int .i64 0, .int .i64 0, .slice none 0 0], .int .i64 0, .agg #[.int .i64 0, .int .i64 0, .slice none 0 0]], []⟩ 8 (by kernel_rfl) (by kernel_rfl) (by kernel_rfl) (by kernel_rfl)) ?_
  intro W base args ds gs before hval0 hW hcnd hsz0 _
  have hval : ∀ (j : Nat) t v, Try.f5.params[j]? = some t → args[j]? = some v → Value.okWide Try.prog W .any base t v := hval0
  have hW' : DataW.Whole enc Try.prog Try.f5.params.toList Rows.gatewayRawSpec.vars false W args.toList ds gs before := hW
  obtain ⟨p, q, hA0, hV, hps, hfz, hnd⟩ := id hW
  have hA : DataW.TrodAll enc Try.prog W 0 (fun _ => true) true Try.f5.params.toList args.toList ds p := hA0
  have hV' : DataW.TrodVars enc Try.prog W (fun _ => true) [] gs q := hV
  obtain ⟨rfl, rfl⟩ := trodVars_none hV'
  have hsz : (DataW.weightsEach Try.prog (Try.f5.params.toList ++ Rows.gatewayRawSpec.plain.varTypes Try.prog) (ds ++ [])).all (· ≤ reachBytes) = true := hsz0
  rw [Try.params5] at hA hval hsz
  obtain ⟨v0, vs0, d0, ds0, p0, q0, hargs, rfl, hp0, h0, r0⟩ := trodAll_cons hA
  obtain ⟨v1, vs1, d1, ds1, p1, q1, rfl, rfl, hp1, h1, r1⟩ := trodAll_cons r0
  obtain ⟨v2, vs2, d2, ds2, p2, q2, rfl, rfl, hp2, h2, r2⟩ := trodAll_cons r1
  obtain ⟨v3, vs3, d3, ds3, p3, q3, rfl, rfl, hp3, h3, r3⟩ := trodAll_cons r2
  obtain ⟨v4, vs4, d4, ds4, p4, q4, rfl, rfl, hp4, h4, r4⟩ := trodAll_cons r3
  obtain ⟨v5, vs5, d5, ds5, p5, q5, rfl, rfl, hp5, h5, r5⟩ := trodAll_cons r4
  obtain ⟨v6, vs6, d6, ds6, p6, q6, rfl, rfl, hp6, h6, r6⟩ := trodAll_cons r5
  obtain ⟨rfl, rfl, hpn⟩ := trodAll_nil r6
  obtain rfl : args = #[v0, v1, v2, v3, v4, v5, v6] := by cases args; simp_all
  obtain ⟨a0, c0, b0, rfl, e0⟩ := arg_agg rd_Gateway (hval 0 44 v0 rfl rfl) Try.underlying44 h0 (sized_at hsz (j := 0) rfl rfl)
  obtain ⟨a1, b1, e1⟩ := arg_cell rd_int (hval 1 3 v1 rfl rfl) (by rw [Try.underlying3]; intro fs hf; cases hf) (by rw [Try.underlying3]; intro n e hf; cases hf) h1 (sized_at hsz (j := 1) rfl rfl)
  obtain ⟨a2, b2, e2⟩ := arg_cell rd_Canons (hval 2 45 v2 rfl rfl) (by rw [Try.underlying45]; intro fs hf; cases hf) (by rw [Try.underlying45]; intro n e hf; cases hf) h2 (sized_at hsz (j := 2) rfl rfl)
  obtain ⟨a3, b3, e3⟩ := arg_cell rd_int (hval 3 3 v3 rfl rfl) (by rw [Try.underlying3]; intro fs hf; cases hf) (by rw [Try.underlying3]; intro n e hf; cases hf) h3 (sized_at hsz (j := 3) rfl rfl)
  obtain ⟨a4, c4, b4, rfl, e4⟩ := arg_agg rd_Mailbox (hval 4 47 v4 rfl rfl) Try.underlying47 h4 (sized_at hsz (j := 4) rfl rfl)
  obtain ⟨a5, b5, e5⟩ := arg_cell rd_int (hval 5 3 v5 rfl rfl) (by rw [Try.underlying3]; intro fs hf; cases hf) (by rw [Try.underlying3]; intro n e hf; cases hf) h5 (sized_at hsz (j := 5) rfl rfl)
  obtain ⟨a6, c6, b6, rfl, e6⟩ := arg_agg rd_Output (hval 6 49 v6 rfl rfl) Try.underlying49 h6 (sized_at hsz (j := 6) rfl rfl)
  refine (gwraw_law W e0 e1 e2 e3 e4 e5 e6 b0 b4 b6).mono fun e W' ⟨he, hb⟩ => ⟨_, he, ?_⟩
  refine law_post (by kernel_rfl) (of_decide_eq_true (by kernel_rfl)) (of_decide_eq_true (by kernel_rfl)) hW' rfl rfl rfl rfl rfl Try.underlying4 hb

theorem proved : Rows.GatewayRawSaid :=
  OpenClaim.holds_of_wide 5 Try.f5 rfl rfl rfl rfl rfl rfl rfl ⟨rfl, rfl, rfl, rfl, rfl⟩ rfl rfl rfl rfl rfl (by kernel_rfl) Try.func5 (by kernel_rfl)
    (of_decide_eq_true (by kernel_rfl)) (by unfold Func.isWrapper; rw [if_neg (of_decide_eq_false (by kernel_rfl))]; exact ⟨rfl, rfl⟩)
    (fun os started H enc _ => lifted os started H enc)
#print axioms proved
end Go.Proofs.Ytdjjhajkpfiagaa.lawGatewayRaw
