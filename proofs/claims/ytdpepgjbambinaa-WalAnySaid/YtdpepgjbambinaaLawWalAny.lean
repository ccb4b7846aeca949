/- Any files are opened as a log; what is read are the frames that stand there. Holds for every input. -/
import Derived.Test.YtdpepgjbambinaaRows
import Derived.WalkKit
import Derived.OpenShut
import Derived.Test.YtdpepgjbambinaaRow
import Derived.Test.YtdpepgjbambinaaSWalAny
namespace Go.Proofs.Ytdpepgjbambinaa.LWalAny
open Go Go.Sep Go.ChangeShapes Go.WideShapes Go.ChangeAt Go.RowKit
set_option linter.unusedVariables false

theorem own : ownKnob Try.prog.godebug = none := by kernel_rfl

set_option maxRecDepth 100000 in
theorem lifted (os : Os) (started : os.Started) (H : Type) (enc : TypeId × Value → H) :
    ReturnsInHanded {} Try.checked os 7 .any (Rows.walAnySpec.pre6 enc Try.prog Try.f7 Rows.walAnyRow.domain false) (Rows.walAnySpec.post enc Try.prog Try.f7 false true false false) := by
  refine returnsInHanded_of_change (C := Try.checked) own started (by kernel_rfl) Try.func7
    (ChangeSpec.witness6 (enc := enc) (C := Try.checked) false ⟨#[], #[.slice none 0 0], []⟩ 8 (by kernel_rfl) (by kernel_rfl) (by kernel_rfl) (by kernel_rfl)) ?_
  intro W base args ds gs before hval0 hW hcnd _
  have hval : ∀ (j : Nat) t v, Try.f7.params[j]? = some t → args[j]? = some v → Value.okWide Try.prog W .any base t v := hval0
  have hW' := hW
  obtain ⟨p, q, hA0, hV, rfl, hfz, hnd⟩ := hW
  have hA : DataW.TrodAll enc Try.prog W 0 (fun _ => true) true Try.f7.params.toList args.toList ds p := hA0
  rw [Try.params7] at hA hval
  obtain ⟨v0, vs0, d0, ds0, p0, q0, hargs, rfl, rfl, h0, r0⟩ := trodAll_cons hA
  obtain ⟨rfl, rfl, rfl⟩ := trodAll_nil r0
  obtain rfl : args = #[v0] := by cases args; simp_all
  obtain ⟨rfl, rfl⟩ := trodVars_none hV
  have y0 := (congrArg (fun s => Rdy W s v0.cells.toList) sh_54).mp (rdy_of_Trod (n := 9) h0)
  obtain ⟨a0, n0, c0, rfl⟩ := okWide_slice Try.underlying54 (hval 0 54 v0 rfl rfl)
  simp only [List.append_nil] at hW'
  refine (WalAny_walk W ⟨a0, n0, c0⟩ y0).mono fun e W' he => ?_
  obtain ⟨rfl, hb⟩ := law_end he
  exact ⟨_, rfl, law_post (by kernel_rfl) (by kernel_rfl) rfl Try.underlying4 hW' rfl (by simpa using hA0) rfl rfl rfl hb⟩

theorem over : Rows.walAnyRow.holds Try.pinned (OpenSpec.ofChange Rows.walAnySpec) :=
  OpenClaim.holds_of_wide 7 Try.f7 rfl rfl rfl rfl rfl rfl rfl ⟨rfl, rfl, rfl, rfl, rfl⟩ rfl rfl rfl rfl rfl (by kernel_rfl) Try.func7 (by kernel_rfl)
    (of_decide_eq_true (by kernel_rfl)) (by unfold Func.isWrapper; first | (rw [if_pos (by decide +kernel)]; kernel_rfl) | (rw [if_neg (by decide +kernel)]; exact ⟨rfl, rfl⟩))
    (fun os started H enc _ => lifted os started H enc)

end Go.Proofs.Ytdpepgjbambinaa.LWalAny
namespace Go.Proofs.Ytdpepgjbambinaa
theorem WalAny_holds : Rows.WalAnySaid := LWalAny.over
#print axioms WalAny_holds
end Go.Proofs.Ytdpepgjbambinaa
