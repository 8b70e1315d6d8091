/- TopLooks: for every input the law returns true and leaves its arguments as they were. From the contract of the law's walk to the given statement. No condition. -/
import Derived.Test.YthmjocibdepahaaGreatRows
import Derived.Test.YthmjocibdepahaaGreatA53
set_option maxHeartbeats 64000000
set_option maxRecDepth 100000
namespace Go.Proofs.YthmjocibdepahaaGreat.lawTopLooks
open Go Go.RowKit Go.ChangeShapes Go.WideShapes Go.ChangeAt Rdn
set_option linter.unusedVariables false
theorem own : ownKnob Tryz.prog.godebug = none := by kernel_rfl
theorem lifted (os : Os) (started : os.Started) (H : Type) (enc : TypeId × Value → H) :
    ReturnsInHanded {} Tryz.checked os 3 .any (Rows.topLooksSpec.pre6 enc Tryz.prog Tryz.f3 Rows.topLooksRow.domain false) (Rows.topLooksSpec.post enc Tryz.prog Tryz.f3 false true false false) := by
  refine returnsInHanded_of_change_sized (C := Tryz.checked) own started (by kernel_rfl) Tryz.func3
    (ChangeSpec.witness6 (enc := enc) (C := Tryz.checked) false ⟨#[], #[.slice none 0 0], []⟩ 8 (by kernel_rfl) (by kernel_rfl) (by kernel_rfl) (by kernel_rfl)) ?_
  intro W base args ds gs before hval0 hW hcnd hsz0 _
  have hval : ∀ (j : Nat) t v, Tryz.f3.params[j]? = some t → args[j]? = some v → Value.okWide Tryz.prog W .any base t v := hval0
  have hW' : DataW.Whole enc Tryz.prog Tryz.f3.params.toList Rows.topLooksSpec.vars false W args.toList ds gs before := hW
  obtain ⟨p, q, hA0, hV, hps, hfz, hnd⟩ := id hW
  have hA : DataW.TrodAll enc Tryz.prog W 0 (fun _ => true) true Tryz.f3.params.toList args.toList ds p := hA0
  have hV' : DataW.TrodVars enc Tryz.prog W (fun _ => true) [] gs q := hV
  obtain ⟨rfl, rfl⟩ := trodVars_none hV'
  have hsz : (DataW.weightsEach Tryz.prog (Tryz.f3.params.toList ++ Rows.topLooksSpec.plain.varTypes Tryz.prog) (ds ++ [])).all (· ≤ reachBytes) = true := hsz0
  rw [Tryz.params3] at hA hval hsz
  obtain ⟨v0, vs0, d0, ds0, p0, q0, hargs, rfl, hp0, h0, r0⟩ := trodAll_cons hA
  obtain ⟨rfl, rfl, hpn⟩ := trodAll_nil r0
  obtain rfl : args = #[v0] := by cases args; simp_all
  obtain ⟨a0, b0, e0⟩ := arg_cell rd_ints (hval 0 22 v0 rfl rfl) (by rw [Tryz.underlying22]; intro fs hf; cases hf) (by rw [Tryz.underlying22]; intro n e hf; cases hf) h0 (sized_at hsz (j := 0) rfl rfl)
  refine (tlk_law W e0).mono fun e W' ⟨he, hb⟩ => ⟨_, he, ?_⟩
  refine law_post (by kernel_rfl) (of_decide_eq_true (by kernel_rfl)) (of_decide_eq_true (by kernel_rfl)) hW' rfl rfl rfl rfl rfl Tryz.underlying4 hb
theorem proved : Rows.TopLooksSaid :=
  OpenClaim.holds_of_wide 3 Tryz.f3 rfl rfl rfl rfl rfl rfl rfl ⟨rfl, rfl, rfl, rfl, rfl⟩ rfl rfl rfl rfl rfl (by kernel_rfl) Tryz.func3 (by kernel_rfl)
    (of_decide_eq_true (by kernel_rfl)) (by unfold Func.isWrapper; rw [if_neg (of_decide_eq_false (by kernel_rfl))]; exact ⟨rfl, rfl⟩)
    (fun os started H enc _ => lifted os started H enc)
#print axioms proved
end Go.Proofs.YthmjocibdepahaaGreat.lawTopLooks
