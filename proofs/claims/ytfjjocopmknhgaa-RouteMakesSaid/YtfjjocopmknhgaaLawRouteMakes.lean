/- The order of any transaction, and whether it still fits behind more moves, is told exactly. Holds for every input. Holds for every input. -/
import Derived.Test.YtfjjocopmknhgaaRows
import Derived.WalkKit
import Derived.OpenShut
import Derived.ChangeMaps5
import Derived.Test.YtfjjocopmknhgaaRouteMakesM4
namespace Go.Proofs.Ytfjjocopmknhgaa.LRouteMakes
open Go Go.Sep Go.ChangeShapes Go.WideShapes Go.ChangeAt Go.ChangeMaps Go.RowKit
set_option linter.unusedVariables false

theorem own : ownKnob Try.prog.godebug = none := by kernel_rfl

set_option maxRecDepth 100000 in
theorem lifted (os : Os) (started : os.Started) (H : Type) (enc : TypeId × Value → H) :
    ReturnsInHanded {} Try.checked os 5 .any (Rows.routeMakesSpec.pre6 enc Try.prog Try.f5 Rows.routeMakesRow.domain false) (Rows.routeMakesSpec.post enc Try.prog Try.f5 false true false false) := by
  refine returnsInHanded_of_change (C := Try.checked) own started (by kernel_rfl) Try.func5
    (ChangeSpec.witness6 (enc := enc) (C := Try.checked) false ⟨#[], #[.slice none 0 0, .slice none 0 0, .agg #[.int .i64 0, .slice none 0 0, .slice none 0 0, .slice none 0 0, .int .i64 0]], []⟩ 8 (by kernel_rfl) (by kernel_rfl) (by kernel_rfl) (by kernel_rfl)) ?_
  intro W base args ds gs before hval0 hW hcnd _
  have hval : ∀ (j : Nat) t v, Try.f5.params[j]? = some t → args[j]? = some v → Value.okWide Try.prog W .any base t v := hval0
  have hW' := hW
  obtain ⟨p, q, hA0, hV, rfl, hfz, hnd⟩ := hW
  have hA : DataW.TrodAll enc Try.prog W 0 (fun _ => true) true Try.f5.params.toList args.toList ds p := hA0
  rw [Try.params5] at hA hval
  obtain ⟨v0, vs0, d0, ds0, p0, q0, hargs, rfl, rfl, h0, r0⟩ := trodAll_cons hA
  obtain ⟨v1, vs1, d1, ds1, p1, q1, rfl, rfl, rfl, h1, r1⟩ := trodAll_cons r0
  obtain ⟨v2, vs2, d2, ds2, p2, q2, rfl, rfl, rfl, h2, r2⟩ := trodAll_cons r1
  obtain ⟨rfl, rfl, rfl⟩ := trodAll_nil r2
  obtain rfl : args = #[v0, v1, v2] := by cases args; simp_all
  obtain ⟨rfl, rfl⟩ := trodVars_none hV
  have y0 := (congrArg (fun s => Rdy W s v0.cells.toList) sh_22).mp (rdy_of_Trod (n := 9) h0)
  obtain ⟨a0, n0, c0, rfl⟩ := okWide_slice Try.underlying22 (hval 0 22 v0 rfl rfl)
  have y1 := (congrArg (fun s => Rdy W s v1.cells.toList) sh_22).mp (rdy_of_Trod (n := 9) h1)
  obtain ⟨a1, n1, c1, rfl⟩ := okWide_slice Try.underlying22 (hval 1 22 v1 rfl rfl)
  have y2 := (congrArg (fun s => Rdy W s v2.cells.toList) sh_50).mp (rdy_of_Trod (n := 9) h2)
  obtain ⟨cs2, rfl, hsz2⟩ := okWide_struct Try.underlying50 (hval 2 50 v2 rfl rfl)
  simp only [List.append_nil] at hW'
  refine (RouteMakes_walk W ⟨a0, n0, c0⟩ y0 ⟨a1, n1, c1⟩ y1 cs2 y2 (hsz2.trans (by kernel_rfl))).mono fun e W' he => ?_
  obtain ⟨rfl, hb⟩ := law_end he
  exact ⟨_, rfl, law_post (by kernel_rfl) (by kernel_rfl) rfl Try.underlying4 hW' rfl (by simpa using hA0) rfl rfl rfl hb⟩

theorem over : Rows.routeMakesRow.holds Try.pinned (OpenSpec.ofChange Rows.routeMakesSpec) :=
  OpenClaim.holds_of_wide 5 Try.f5 rfl rfl rfl rfl rfl rfl rfl ⟨rfl, rfl, rfl, rfl, rfl⟩ rfl rfl rfl rfl rfl (by kernel_rfl) Try.func5 (by kernel_rfl)
    (of_decide_eq_true (by kernel_rfl)) (by unfold Func.isWrapper; first | (rw [if_pos (by decide +kernel)]; kernel_rfl) | (rw [if_neg (by decide +kernel)]; exact ⟨rfl, rfl⟩))
    (fun os started H enc _ => lifted os started H enc)

end Go.Proofs.Ytfjjocopmknhgaa.LRouteMakes
namespace Go.Proofs.Ytfjjocopmknhgaa
theorem RouteMakes_holds : Rows.RouteMakesSaid := LRouteMakes.over
#print axioms RouteMakes_holds
end Go.Proofs.Ytfjjocopmknhgaa
