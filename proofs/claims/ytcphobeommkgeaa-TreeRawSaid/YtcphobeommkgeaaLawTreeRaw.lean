/- TreeRaw: for every input the law returns true and leaves its arguments as they were. From the contract of the law's walk to the given statement. No condition. -/
import Derived.Test.YtcphobeommkgeaaRows
import Derived.Test.YtcphobeommkgeaaReads
import Derived.Test.YtcphobeommkgeaaPT
namespace Go.Proofs.Ytcphobeommkgeaa.lawTreeRaw
open Go Go.RowKit Go.ChangeShapes Go.WideShapes Go.ChangeAt Rdn
set_option linter.unusedVariables false

theorem own : ownKnob Try.prog.godebug = none := by kernel_rfl

set_option maxRecDepth 100000 in
theorem lifted (os : Os) (started : os.Started) (H : Type) (enc : TypeId × Value → H) :
    ReturnsInHanded {} Try.checked os 12 .any (Rows.treeRawSpec.pre6 enc Try.prog Try.f12 Rows.treeRawRow.domain false) (Rows.treeRawSpec.post enc Try.prog Try.f12 false true false false) := by
  refine returnsInHanded_of_change_sized (C := Try.checked) own started (by kernel_rfl) Try.func12
    (ChangeSpec.witness6 (enc := enc) (C := Try.checked) false ⟨#[], #[.slice none 0 0, .agg #[.slice none 0 0], .agg #[.slice none 0 0], .int .i64 0, .int .u32 0, .agg #[.slice none 0 0, .slice none 0 0]], []⟩ 8 (by kernel_rfl) (by kernel_rfl) (by kernel_rfl) (by kernel_rfl)) ?_
  intro W base args ds gs before hval0 hW hcnd hsz0 _
  have hval : ∀ (j : Nat) t v, Try.f12.params[j]? = some t → args[j]? = some v → Value.okWide Try.prog W .any base t v := hval0
  have hW' : DataW.Whole enc Try.prog Try.f12.params.toList Rows.treeRawSpec.vars false W args.toList ds gs before := hW
  obtain ⟨p, q, hA0, hV, hps, hfz, hnd⟩ := id hW
  have hA : DataW.TrodAll enc Try.prog W 0 (fun _ => true) true Try.f12.params.toList args.toList ds p := hA0
  have hV' : DataW.TrodVars enc Try.prog W (fun _ => true) [] gs q := hV
  obtain ⟨rfl, rfl⟩ := trodVars_none hV'
  have hsz : (DataW.weightsEach Try.prog (Try.f12.params.toList ++ Rows.treeRawSpec.plain.varTypes Try.prog) (ds ++ [])).all (· ≤ reachBytes) = true := hsz0
  rw [Try.params12] at hA hval hsz
  obtain ⟨v0, vs0, d0, ds0, p0, q0, hargs, rfl, hp0, h0, r0⟩ := trodAll_cons hA
  obtain ⟨v1, vs1, d1, ds1, p1, q1, rfl, rfl, hp1, h1, r1⟩ := trodAll_cons r0
  obtain ⟨v2, vs2, d2, ds2, p2, q2, rfl, rfl, hp2, h2, r2⟩ := trodAll_cons r1
  obtain ⟨v3, vs3, d3, ds3, p3, q3, rfl, rfl, hp3, h3, r3⟩ := trodAll_cons r2
  obtain ⟨v4, vs4, d4, ds4, p4, q4, rfl, rfl, hp4, h4, r4⟩ := trodAll_cons r3
  obtain ⟨v5, vs5, d5, ds5, p5, q5, rfl, rfl, hp5, h5, r5⟩ := trodAll_cons r4
  obtain ⟨rfl, rfl, hpn⟩ := trodAll_nil r5
  obtain rfl : args = #[v0, v1, v2, v3, v4, v5] := by cases args; simp_all
  obtain ⟨a0, b0, e0⟩ := arg_cell rd_u32s (hval 0 53 v0 rfl rfl) (by rw [Try.underlying53]; intro fs hf; cases hf) (by rw [Try.underlying53]; intro n e hf; cases hf) h0 (sized_at hsz (j := 0) rfl rfl)
  obtain ⟨a1, c1, b1, rfl, e1⟩ := arg_agg rd_Tree (hval 1 57 v1 rfl rfl) Try.underlying57 h1 (sized_at hsz (j := 1) rfl rfl)
  obtain ⟨a2, c2, b2, rfl, e2⟩ := arg_agg rd_Tree (hval 2 57 v2 rfl rfl) Try.underlying57 h2 (sized_at hsz (j := 2) rfl rfl)
  obtain ⟨a3, b3, e3⟩ := arg_cell rd_int (hval 3 3 v3 rfl rfl) (by rw [Try.underlying3]; intro fs hf; cases hf) (by rw [Try.underlying3]; intro n e hf; cases hf) h3 (sized_at hsz (j := 3) rfl rfl)
  obtain ⟨a4, b4, e4⟩ := arg_cell rd_u32 (hval 4 54 v4 rfl rfl) (by rw [Try.underlying54]; intro fs hf; cases hf) (by rw [Try.underlying54]; intro n e hf; cases hf) h4 (sized_at hsz (j := 4) rfl rfl)
  obtain ⟨a5, c5, b5, rfl, e5⟩ := arg_agg rd_State (hval 5 30 v5 rfl rfl) Try.underlying30 h5 (sized_at hsz (j := 5) rfl rfl)
  refine (traw_law W e0 e1 e2 e3 e4 e5 b5).mono fun e W' ⟨he, hb⟩ => ⟨_, he, ?_⟩
  refine law_post (by kernel_rfl) (of_decide_eq_true (by kernel_rfl)) (of_decide_eq_true (by kernel_rfl)) hW' rfl rfl rfl rfl rfl Try.underlying4 hb

theorem proved : Rows.TreeRawSaid :=
  OpenClaim.holds_of_wide 12 Try.f12 rfl rfl rfl rfl rfl rfl rfl ⟨rfl, rfl, rfl, rfl, rfl⟩ rfl rfl rfl rfl rfl (by kernel_rfl) Try.func12 (by kernel_rfl)
    (of_decide_eq_true (by kernel_rfl)) (by unfold Func.isWrapper; rw [if_neg (of_decide_eq_false (by kernel_rfl))]; exact ⟨rfl, rfl⟩)
    (fun os started H enc _ => lifted os started H enc)
#print axioms proved
end Go.Proofs.Ytcphobeommkgeaa.lawTreeRaw
