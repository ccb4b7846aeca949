/- Keys that a transaction doesn't declare play no part in what becomes of it. Holds for every input. -/
import Derived.Test.YtfjjocopmknhgaaRows
import Derived.WalkKit
import Derived.OpenShut
import Derived.ChangeMaps5
import Derived.Test.YtfjjocopmknhgaaEvalOthersM5
namespace Go.Proofs.Ytfjjocopmknhgaa.LEvalOthers
open Go Go.Sep Go.ChangeShapes Go.WideShapes Go.ChangeAt Go.ChangeMaps Go.RowKit
set_option linter.unusedVariables false

theorem own : ownKnob Try.prog.godebug = none := by kernel_rfl

set_option maxRecDepth 100000 in
theorem lifted (os : Os) (started : os.Started) (H : Type) (enc : TypeId × Value → H) :
    ReturnsInHanded {} Try.checked os 7 .any (Rows.evalOthersSpec.pre6 enc Try.prog Try.f7 Rows.evalOthersRow.domain false) (Rows.evalOthersSpec.post enc Try.prog Try.f7 false true false false) := by
  refine returnsInHanded_of_change (C := Try.checked) own started (by kernel_rfl) Try.func7
    (ChangeSpec.witness6 (enc := enc) (C := Try.checked) false ⟨#[], #[.slice none 0 0, .agg #[.int .i64 0, .slice none 0 0, .slice none 0 0, .slice none 0 0, .int .i64 0], .string ⟨#[]⟩], []⟩ 8 (by kernel_rfl) (by kernel_rfl) (by kernel_rfl) (by kernel_rfl)) ?_
  intro W base args ds gs before hval0 hW hcnd _
  have hval : ∀ (j : Nat) t v, Try.f7.params[j]? = some t → args[j]? = some v → Value.okWide Try.prog W .any base t v := hval0
  have hW' := hW
  obtain ⟨p, q, hA0, hV, rfl, hfz, hnd⟩ := hW
  have hA : DataW.TrodAll enc Try.prog W 0 (fun _ => true) true Try.f7.params.toList args.toList ds p := hA0
  rw [Try.params7] at hA hval
  obtain ⟨v0, vs0, d0, ds0, p0, q0, hargs, rfl, rfl, h0, r0⟩ := trodAll_cons hA
  obtain ⟨v1, vs1, d1, ds1, p1, q1, rfl, rfl, rfl, h1, r1⟩ := trodAll_cons r0
  obtain ⟨v2, vs2, d2, ds2, p2, q2, rfl, rfl, rfl, h2, r2⟩ := trodAll_cons r1
  obtain ⟨rfl, rfl, rfl⟩ := trodAll_nil r2
  obtain rfl : args = #[v0, v1, v2] := by cases args; simp_all
  obtain ⟨rfl, rfl⟩ := trodVars_none hV
  have y0 := (congrArg (fun s => Rdy W s v0.cells.toList) sh_70).mp (rdy_of_Trod (n := 9) h0)
  obtain ⟨a0, n0, c0, rfl⟩ := okWide_slice Try.underlying70 (hval 0 70 v0 rfl rfl)
  have y1 := (congrArg (fun s => Rdy W s v1.cells.toList) sh_50).mp (rdy_of_Trod (n := 9) h1)
  obtain ⟨cs1, rfl, hsz1⟩ := okWide_struct Try.underlying50 (hval 1 50 v1 rfl rfl)
  obtain ⟨x2, rfl, rfl, rfl, w2⟩ := open_string Try.underlying9 (hval 2 9 v2 rfl rfl) h2
  simp only [List.append_nil] at hW'
  refine (EvalOthers_walk W ⟨a0, n0, c0⟩ y0 cs1 y1 (hsz1.trans (by kernel_rfl)) x2 w2).mono fun e W' he => ?_
  obtain ⟨rfl, hb⟩ := law_end he
  exact ⟨_, rfl, law_post (by kernel_rfl) (by kernel_rfl) rfl Try.underlying4 hW' rfl (by simpa using hA0) rfl rfl rfl hb⟩

theorem over : Rows.evalOthersRow.holds Try.pinned (OpenSpec.ofChange Rows.evalOthersSpec) :=
  OpenClaim.holds_of_wide 7 Try.f7 rfl rfl rfl rfl rfl rfl rfl ⟨rfl, rfl, rfl, rfl, rfl⟩ rfl rfl rfl rfl rfl (by kernel_rfl) Try.func7 (by kernel_rfl)
    (of_decide_eq_true (by kernel_rfl)) (by unfold Func.isWrapper; first | (rw [if_pos (by decide +kernel)]; kernel_rfl) | (rw [if_neg (by decide +kernel)]; exact ⟨rfl, rfl⟩))
    (fun os started H enc _ => lifted os started H enc)

end Go.Proofs.Ytfjjocopmknhgaa.LEvalOthers
namespace Go.Proofs.Ytfjjocopmknhgaa
theorem EvalOthers_holds : Rows.EvalOthersSaid := LEvalOthers.over
#print axioms EvalOthers_holds
end Go.Proofs.Ytfjjocopmknhgaa
