/- However many tries of a submission are stale, each has its own Tag, and their number is no more than there may be. Holds for every input. -/
import Derived.Test.YteolfpghafdmdaaRows
import Derived.WalkKit
import Derived.OpenShut
import Derived.ChangeMaps5
import Derived.Test.YteolfpghafdmdaaFrontTriesM4
namespace Go.Proofs.Yteolfpghafdmdaa.LFrontTries
open Go Go.Sep Go.ChangeShapes Go.WideShapes Go.ChangeAt Go.ChangeMaps Go.RowKit
set_option linter.unusedVariables false

theorem own : ownKnob Try.prog.godebug = none := by kernel_rfl

theorem hB8 : ∀ e, Try.prog.underlying e = some (.int .u8) → 1 ≤ Try.prog.bytesOf e := u8_size (by kernel_rfl)

set_option maxRecDepth 100000 in
theorem lifted (os : Os) (started : os.Started) (H : Type) (enc : TypeId × Value → H) :
    ReturnsInHanded {} Try.checked os 4 .any (Rows.frontTriesSpec.pre6 enc Try.prog Try.f4 Rows.frontTriesRow.domain false) (Rows.frontTriesSpec.post enc Try.prog Try.f4 false true false false) := by
  refine returnsInHanded_of_change_sized (C := Try.checked) own started (by kernel_rfl) Try.func4
    (ChangeSpec.witness6 (enc := enc) (C := Try.checked) false ⟨#[], #[.slice none 0 0, .slice none 0 0], []⟩ 8 (by kernel_rfl) (by kernel_rfl) (by kernel_rfl) (by kernel_rfl)) ?_
  intro W base args ds gs before hval0 hW hcnd hwt _
  have hval : ∀ (j : Nat) t v, Try.f4.params[j]? = some t → args[j]? = some v → Value.okWide Try.prog W .any base t v := hval0
  have hW' := hW
  obtain ⟨p, q, hA0, hV, rfl, hfz, hnd⟩ := hW
  have hA : DataW.TrodAll enc Try.prog W 0 (fun _ => true) true Try.f4.params.toList args.toList ds p := hA0
  rw [Try.params4] at hA hval
  obtain ⟨v0, vs0, d0, ds0, p0, q0, hargs, rfl, rfl, h0, r0⟩ := trodAll_cons hA
  obtain ⟨v1, vs1, d1, ds1, p1, q1, rfl, rfl, rfl, h1, r1⟩ := trodAll_cons r0
  obtain ⟨rfl, rfl, rfl⟩ := trodAll_nil r1
  obtain rfl : args = #[v0, v1] := by cases args; simp_all
  obtain ⟨rfl, rfl⟩ := trodVars_none hV
  have y0 := (congrArg (fun s => RdyB W s v0.cells.toList) sh_22).mp (rdyB_of_Trod (n := 9) hB8 h0 fun v hv => of_decide_eq_true (List.all_eq_true.1 hwt v (DataW.weights_mem_each (j := 0) (t := 22) (d := d0) (by kernel_rfl) rfl v hv)))
  obtain ⟨a0, n0, c0, rfl⟩ := okWide_slice Try.underlying22 (hval 0 22 v0 rfl rfl)
  have y1 := (congrArg (fun s => RdyB W s v1.cells.toList) sh_58).mp (rdyB_of_Trod (n := 9) hB8 h1 fun v hv => of_decide_eq_true (List.all_eq_true.1 hwt v (DataW.weights_mem_each (j := 1) (t := 58) (d := d1) (by kernel_rfl) rfl v hv)))
  obtain ⟨a1, n1, c1, rfl⟩ := okWide_slice Try.underlying58 (hval 1 58 v1 rfl rfl)
  simp only [List.append_nil] at hW'
  refine (FrontTries_walk W ⟨a0, n0, c0⟩ y0 ⟨a1, n1, c1⟩ y1).mono fun e W' he => ?_
  obtain ⟨rfl, hb⟩ := law_end he
  exact ⟨_, rfl, law_post (by kernel_rfl) (by kernel_rfl) rfl Try.underlying4 hW' rfl (by simpa using hA0) rfl rfl rfl hb⟩

theorem over : Rows.frontTriesRow.holds Try.pinned (OpenSpec.ofChange Rows.frontTriesSpec) :=
  OpenClaim.holds_of_wide 4 Try.f4 rfl rfl rfl rfl rfl rfl rfl ⟨rfl, rfl, rfl, rfl, rfl⟩ rfl rfl rfl rfl rfl (by kernel_rfl) Try.func4 (by kernel_rfl)
    (of_decide_eq_true (by kernel_rfl)) (by unfold Func.isWrapper; first | (rw [if_pos (by decide +kernel)]; kernel_rfl) | (rw [if_neg (by decide +kernel)]; exact ⟨rfl, rfl⟩))
    (fun os started H enc _ => lifted os started H enc)

end Go.Proofs.Yteolfpghafdmdaa.LFrontTries
namespace Go.Proofs.Yteolfpghafdmdaa
theorem FrontTries_holds : Rows.FrontTriesSaid := LFrontTries.over
#print axioms FrontTries_holds
end Go.Proofs.Yteolfpghafdmdaa
