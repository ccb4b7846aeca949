/- A try whose mark will be is in line once the key has got its home as often as the mark tells, behind those that parked ahead of it; one whose mark is gone is doomed. Holds for every input. Holds for every input. -/
import Derived.Test.YtfjjocopmknhgaaRows
import Derived.WalkKit
import Derived.OpenShut
import Derived.ChangeMaps5
import Derived.Test.YtfjjocopmknhgaaLocksParkedM4
namespace Go.Proofs.Ytfjjocopmknhgaa.LLocksParked
open Go Go.Sep Go.ChangeShapes Go.WideShapes Go.ChangeAt Go.ChangeMaps Go.RowKit
set_option linter.unusedVariables false

theorem own : ownKnob Try.prog.godebug = none := by kernel_rfl

set_option maxRecDepth 100000 in
theorem lifted (os : Os) (started : os.Started) (H : Type) (enc : TypeId × Value → H) :
    ReturnsInHanded {} Try.checked os 10 .any (Rows.locksParkedSpec.pre6 enc Try.prog Try.f10 Rows.locksParkedRow.domain false) (Rows.locksParkedSpec.post enc Try.prog Try.f10 false true false false) := by
  refine returnsInHanded_of_change (C := Try.checked) own started (by kernel_rfl) Try.func10
    (ChangeSpec.witness6 (enc := enc) (C := Try.checked) false ⟨#[], #[.slice none 0 0, .int .i64 0], []⟩ 8 (by kernel_rfl) (by kernel_rfl) (by kernel_rfl) (by kernel_rfl)) ?_
  intro W base args ds gs before hval0 hW hcnd _
  have hval : ∀ (j : Nat) t v, Try.f10.params[j]? = some t → args[j]? = some v → Value.okWide Try.prog W .any base t v := hval0
  have hW' := hW
  obtain ⟨p, q, hA0, hV, rfl, hfz, hnd⟩ := hW
  have hA : DataW.TrodAll enc Try.prog W 0 (fun _ => true) true Try.f10.params.toList args.toList ds p := hA0
  rw [Try.params10] at hA hval
  obtain ⟨v0, vs0, d0, ds0, p0, q0, hargs, rfl, rfl, h0, r0⟩ := trodAll_cons hA
  obtain ⟨v1, vs1, d1, ds1, p1, q1, rfl, rfl, rfl, h1, r1⟩ := trodAll_cons r0
  obtain ⟨rfl, rfl, rfl⟩ := trodAll_nil r1
  obtain rfl : args = #[v0, v1] := by cases args; simp_all
  obtain ⟨rfl, rfl⟩ := trodVars_none hV
  have y0 := (congrArg (fun s => Rdy W s v0.cells.toList) sh_97).mp (rdy_of_Trod (n := 9) h0)
  obtain ⟨a0, n0, c0, rfl⟩ := okWide_slice Try.underlying97 (hval 0 97 v0 rfl rfl)
  obtain ⟨x1, rfl, rfl, rfl, w1⟩ := open_int Try.underlying3 (hval 1 3 v1 rfl rfl) h1
  simp only [List.append_nil] at hW'
  refine (LocksParked_walk W ⟨a0, n0, c0⟩ y0 x1 w1).mono fun e W' he => ?_
  obtain ⟨rfl, hb⟩ := law_end he
  exact ⟨_, rfl, law_post (by kernel_rfl) (by kernel_rfl) rfl Try.underlying4 hW' rfl (by simpa using hA0) rfl rfl rfl hb⟩

theorem over : Rows.locksParkedRow.holds Try.pinned (OpenSpec.ofChange Rows.locksParkedSpec) :=
  OpenClaim.holds_of_wide 10 Try.f10 rfl rfl rfl rfl rfl rfl rfl ⟨rfl, rfl, rfl, rfl, rfl⟩ rfl rfl rfl rfl rfl (by kernel_rfl) Try.func10 (by kernel_rfl)
    (of_decide_eq_true (by kernel_rfl)) (by unfold Func.isWrapper; first | (rw [if_pos (by decide +kernel)]; kernel_rfl) | (rw [if_neg (by decide +kernel)]; exact ⟨rfl, rfl⟩))
    (fun os started H enc _ => lifted os started H enc)

end Go.Proofs.Ytfjjocopmknhgaa.LLocksParked
namespace Go.Proofs.Ytfjjocopmknhgaa
theorem LocksParked_holds : Rows.LocksParkedSaid := LLocksParked.over
#print axioms LocksParked_holds
end Go.Proofs.Ytfjjocopmknhgaa
