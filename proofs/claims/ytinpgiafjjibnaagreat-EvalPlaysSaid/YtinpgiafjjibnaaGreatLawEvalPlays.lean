/- Transactions one behind the other, each applied, leave the document's records. Holds for every input. -/
import Derived.Test.YtinpgiafjjibnaaGreatRows
import Derived.WalkKit
import Derived.OpenShut
import Derived.ChangeMaps5
import Derived.Test.YtinpgiafjjibnaaGreatEvalPlaysM5
namespace Go.Proofs.YtinpgiafjjibnaaGreat.LEvalPlays
open Go Go.Sep Go.ChangeShapes Go.WideShapes Go.ChangeAt Go.ChangeMaps Go.RowKit
set_option linter.unusedVariables false

theorem own : ownKnob Tryz.prog.godebug = none := by kernel_rfl

set_option maxRecDepth 100000 in
theorem lifted (os : Os) (started : os.Started) (H : Type) (enc : TypeId × Value → H) :
    ReturnsInHanded {} Tryz.checked os 4 .any (Rows.evalPlaysSpec.pre6 enc Tryz.prog Tryz.f4 Rows.evalPlaysRow.domain false) (Rows.evalPlaysSpec.post enc Tryz.prog Tryz.f4 false true false false) := by
  refine returnsInHanded_of_change (C := Tryz.checked) own started (by kernel_rfl) Tryz.func4
    (ChangeSpec.witness6 (enc := enc) (C := Tryz.checked) false ⟨#[], #[.slice none 0 0], []⟩ 8 (by kernel_rfl) (by kernel_rfl) (by kernel_rfl) (by kernel_rfl)) ?_
  intro W base args ds gs before hval0 hW hcnd _
  have hval : ∀ (j : Nat) t v, Tryz.f4.params[j]? = some t → args[j]? = some v → Value.okWide Tryz.prog W .any base t v := hval0
  have hW' := hW
  obtain ⟨p, q, hA0, hV, rfl, hfz, hnd⟩ := hW
  have hA : DataW.TrodAll enc Tryz.prog W 0 (fun _ => true) true Tryz.f4.params.toList args.toList ds p := hA0
  rw [Tryz.params4] at hA hval
  obtain ⟨v0, vs0, d0, ds0, p0, q0, hargs, rfl, rfl, h0, r0⟩ := trodAll_cons hA
  obtain ⟨rfl, rfl, rfl⟩ := trodAll_nil r0
  obtain rfl : args = #[v0] := by cases args; simp_all
  obtain ⟨rfl, rfl⟩ := trodVars_none hV
  have y0 := (congrArg (fun s => Rdy W s v0.cells.toList) sh_61).mp (rdy_of_Trod (n := 9) h0)
  obtain ⟨a0, n0, c0, rfl⟩ := okWide_slice Tryz.underlying61 (hval 0 61 v0 rfl rfl)
  simp only [List.append_nil] at hW'
  refine (EvalPlays_walk W ⟨a0, n0, c0⟩ y0).mono fun e W' he => ?_
  obtain ⟨rfl, hb⟩ := law_end he
  exact ⟨_, rfl, law_post (by kernel_rfl) (by kernel_rfl) rfl Tryz.underlying4 hW' rfl (by simpa using hA0) rfl rfl rfl hb⟩

theorem over : Rows.evalPlaysRow.holds Tryz.pinned (OpenSpec.ofChange Rows.evalPlaysSpec) :=
  OpenClaim.holds_of_wide 4 Tryz.f4 rfl rfl rfl rfl rfl rfl rfl ⟨rfl, rfl, rfl, rfl, rfl⟩ rfl rfl rfl rfl rfl (by kernel_rfl) Tryz.func4 (by kernel_rfl)
    (of_decide_eq_true (by kernel_rfl)) (by unfold Func.isWrapper; first | (rw [if_pos (by decide +kernel)]; kernel_rfl) | (rw [if_neg (by decide +kernel)]; exact ⟨rfl, rfl⟩))
    (fun os started H enc _ => lifted os started H enc)

end Go.Proofs.YtinpgiafjjibnaaGreat.LEvalPlays
namespace Go.Proofs.YtinpgiafjjibnaaGreat
theorem EvalPlays_holds : Rows.EvalPlaysSaid := LEvalPlays.over
#print axioms EvalPlays_holds
end Go.Proofs.YtinpgiafjjibnaaGreat
