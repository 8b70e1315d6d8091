/- StandbyRaw: for every input the law returns true and leaves its arguments as they were. From the contract of the law's walk to the given statement. No condition. -/
import Derived.Test.YtdpfglkjhdnbbaaRows
import Derived.Test.YtdpfglkjhdnbbaaReads
import Derived.Test.YtdpfglkjhdnbbaaR27
namespace Go.Proofs.Ytdpfglkjhdnbbaa.lawStandbyRaw
open Go Go.RowKit Go.ChangeShapes Go.WideShapes Go.ChangeAt Rdn
set_option linter.unusedVariables false
theorem own : ownKnob Try.prog.godebug = none := by kernel_rfl
set_option maxRecDepth 100000 in
theorem lifted (os : Os) (started : os.Started) (H : Type) (enc : TypeId × Value → H) :
    ReturnsInHanded {} Try.checked os 5 .any (Rows.standbyRawSpec.pre6 enc Try.prog Try.f5 Rows.standbyRawRow.domain false) (Rows.standbyRawSpec.post enc Try.prog Try.f5 false true false false) := by
  refine returnsInHanded_of_change_sized (C := Try.checked) own started (by kernel_rfl) Try.func5
    (ChangeSpec.witness6 (enc := enc) (C := Try.checked) false ⟨#[], #[.agg #[.int .i64 0, .int .i64 0, .int .i64 0, .slice none 0 0, .slice none 0 0, .slice none 0 0, .int .i64 0, .int .i64 0, .int .i64 0, .slice none 0 0, .int .i64 0, .int .i64 0, .int .i64 0, .slice none 0 0], .agg #[.int .i64 0, .int .i64 0, .int .i64 0, .slice none 0 0], .int .i64 0, .int .i64 0, .int .i64 0], []⟩ 8 (by kernel_rfl) (by kernel_rfl) (by kernel_rfl) (by kernel_rfl)) ?_
  intro W base args ds gs before hval0 hW hcnd hsz0 _
  have hval : ∀ (j : Nat) t v, Try.f5.params[j]? = some t → args[j]? = some v → Value.okWide Try.prog W .any base t v := hval0
  have hW' : DataW.Whole enc Try.prog Try.f5.params.toList Rows.standbyRawSpec.vars false W args.toList ds gs before := hW
  obtain ⟨p, q, hA0, hV, hps, hfz, hnd⟩ := id hW
  have hA : DataW.TrodAll enc Try.prog W 0 (fun _ => true) true Try.f5.params.toList args.toList ds p := hA0
  have hV' : DataW.TrodVars enc Try.prog W (fun _ => true) [] gs q := hV
  obtain ⟨rfl, rfl⟩ := trodVars_none hV'
  have hsz : (DataW.weightsEach Try.prog (Try.f5.params.toList ++ Rows.standbyRawSpec.plain.varTypes Try.prog) (ds ++ [])).all (· ≤ reachBytes) = true := hsz0
  rw [Try.params5] at hA hval hsz
  obtain ⟨v0, vs0, d0, ds0, p0, q0, hargs, rfl, hp0, h0, r0⟩ := trodAll_cons hA
  obtain ⟨v1, vs1, d1, ds1, p1, q1, rfl, rfl, hp1, h1, r1⟩ := trodAll_cons r0
  obtain ⟨v2, vs2, d2, ds2, p2, q2, rfl, rfl, hp2, h2, r2⟩ := trodAll_cons r1
  obtain ⟨v3, vs3, d3, ds3, p3, q3, rfl, rfl, hp3, h3, r3⟩ := trodAll_cons r2
  obtain ⟨v4, vs4, d4, ds4, p4, q4, rfl, rfl, hp4, h4, r4⟩ := trodAll_cons r3
  obtain ⟨rfl, rfl, hpn⟩ := trodAll_nil r4
  obtain rfl : args = #[v0, v1, v2, v3, v4] := by cases args; simp_all
  obtain ⟨a0, c0, b0, rfl, e0⟩ := arg_agg rd_Pair (hval 0 36 v0 rfl rfl) Try.underlying36 h0 (sized_at hsz (j := 0) rfl rfl)
  obtain ⟨a1, c1, b1, rfl, e1⟩ := arg_agg rd_Note (hval 1 26 v1 rfl rfl) Try.underlying26 h1 (sized_at hsz (j := 1) rfl rfl)
  obtain ⟨a2, b2, e2⟩ := arg_cell rd_int (hval 2 3 v2 rfl rfl) (by rw [Try.underlying3]; intro fs hf; cases hf) (by rw [Try.underlying3]; intro n e hf; cases hf) h2 (sized_at hsz (j := 2) rfl rfl)
  obtain ⟨a3, b3, e3⟩ := arg_cell rd_int (hval 3 3 v3 rfl rfl) (by rw [Try.underlying3]; intro fs hf; cases hf) (by rw [Try.underlying3]; intro n e hf; cases hf) h3 (sized_at hsz (j := 3) rfl rfl)
  obtain ⟨a4, b4, e4⟩ := arg_cell rd_int (hval 4 3 v4 rfl rfl) (by rw [Try.underlying3]; intro fs hf; cases hf) (by rw [Try.underlying3]; intro n e hf; cases hf) h4 (sized_at hsz (j := 4) rfl rfl)
  refine (sraw_law W e0 e1 e2 e3 e4 b0).mono fun e W' ⟨he, hb⟩ => ⟨_, he, ?_⟩
  refine law_post (by kernel_rfl) (of_decide_eq_true (by kernel_rfl)) (of_decide_eq_true (by kernel_rfl)) hW' rfl rfl rfl rfl rfl Try.underlying4 hb
theorem proved : Rows.StandbyRawSaid :=
  OpenClaim.holds_of_wide 5 Try.f5 rfl rfl rfl rfl rfl rfl rfl ⟨rfl, rfl, rfl, rfl, rfl⟩ rfl rfl rfl rfl rfl (by kernel_rfl) Try.func5 (by kernel_rfl)
    (of_decide_eq_true (by kernel_rfl)) (by unfold Func.isWrapper; rw [if_neg (of_decide_eq_false (by kernel_rfl))]; exact ⟨rfl, rfl⟩)
    (fun os started H enc _ => lifted os started H enc)
#print axioms proved
end Go.Proofs.Ytdpfglkjhdnbbaa.lawStandbyRaw
