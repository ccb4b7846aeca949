/- The claim SchedWhole. Holds for every input. -/
import Derived.Test.YtdemfamgieonbaaGreatRows
import Derived.WalkKit
import Derived.OpenShut
import Derived.ChangeMaps5
import Derived.Test.YtdemfamgieonbaaGreatSchedWholeM5
set_option linter.all false
namespace Go.Proofs.YtdemfamgieonbaaGreat.LSchedWhole
open Go Go.Sep Go.ChangeShapes Go.WideShapes Go.ChangeAt Go.ChangeMaps Go.RowKit
theorem own:ownKnob Tryz.prog.godebug = none:=by kernel_rfl
set_option maxRecDepth 100000 in
theorem lifted (os:Os) (started:os.Started) (H:Type) (enc:TypeId×Value→H) :
  ReturnsInHanded {} Tryz.checked os 3 .any (Rows.schedWholeSpec.pre6 enc Tryz.prog Tryz.f3 Rows.schedWholeRow.domain false) (Rows.schedWholeSpec.post enc Tryz.prog Tryz.f3 false true false false):=by
 refine returnsInHanded_of_change (C:=Tryz.checked) own started (by kernel_rfl) Tryz.func3
  (ChangeSpec.witness6 (enc:=enc) (C:=Tryz.checked) false ⟨#[],#[.agg #[.int .i64 0,.slice none 0 0,.slice none 0 0,.slice none 0 0,.int .i64 0],.int .i64 0],[]⟩ 8 (by kernel_rfl) (by kernel_rfl) (by kernel_rfl) (by kernel_rfl)) ?_
 intro W base args ds gs before hval0 hW hcnd _
 have hval:∀ (j:Nat) t v,Tryz.f3.params[j]? = some t→args[j]? = some v→Value.okWide Tryz.prog W .any base t v:=hval0
 have hW':=hW
 obtain ⟨p,q,hA0,hV,rfl,hfz,hnd⟩:=hW
 have hA:DataW.TrodAll enc Tryz.prog W 0 (fun _=>true) true Tryz.f3.params.toList args.toList ds p:=hA0
 rw [Tryz.params3] at hA hval
 obtain ⟨v0,vs0,d0,ds0,p0,q0,hargs,rfl,rfl,h0,r0⟩:=trodAll_cons hA
 obtain ⟨v1,vs1,d1,ds1,p1,q1,rfl,rfl,rfl,h1,r1⟩:=trodAll_cons r0
 obtain ⟨rfl,rfl,rfl⟩:=trodAll_nil r1
 obtain rfl:args = #[v0,v1]:=by cases args; simp_all
 obtain ⟨rfl,rfl⟩:=trodVars_none hV
 have y0:=(congrArg (fun s=>Rdy W s v0.cells.toList) sh_25).mp (zN5 (n:=9) h0)
 obtain ⟨cs0,rfl,hsz0⟩:=okWide_struct Tryz.underlying25 (hval 0 25 v0 rfl rfl)
 obtain ⟨x1,rfl,rfl,rfl,w1⟩:=open_int Tryz.underlying3 (hval 1 3 v1 rfl rfl) h1
 simp only [List.append_nil] at hW'
 refine (zKr W cs0 y0 (hsz0.trans (by kernel_rfl)) x1 w1).mono fun e W' he=>?_
 obtain ⟨rfl,hb⟩:=zSc he
 exact ⟨_,rfl,zRC (by kernel_rfl) (by kernel_rfl) rfl Tryz.underlying4 hW' rfl (by simpa using hA0) rfl rfl rfl hb⟩
theorem over:Rows.schedWholeRow.holds Tryz.pinned (OpenSpec.ofChange Rows.schedWholeSpec) :=
 OpenClaim.holds_of_wide 3 Tryz.f3 rfl rfl rfl rfl rfl rfl rfl ⟨rfl,rfl,rfl,rfl,rfl⟩ rfl rfl rfl rfl rfl (by kernel_rfl) Tryz.func3 (by kernel_rfl)
  (of_decide_eq_true (by kernel_rfl)) (by unfold Func.isWrapper; first | (rw [if_pos (by decide +kernel)]; kernel_rfl) | (rw [if_neg (by decide +kernel)]; exact ⟨rfl,rfl⟩))
  (fun os started H enc _=>lifted os started H enc)
end Go.Proofs.YtdemfamgieonbaaGreat.LSchedWhole
namespace Go.Proofs.YtdemfamgieonbaaGreat
theorem SchedWhole_holds:Rows.SchedWholeSaid:=LSchedWhole.over
#print axioms SchedWhole_holds
end Go.Proofs.YtdemfamgieonbaaGreat
