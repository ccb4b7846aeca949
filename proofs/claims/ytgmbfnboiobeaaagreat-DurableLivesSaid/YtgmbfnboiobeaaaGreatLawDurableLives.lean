/- The claim DurableLives. Holds for every input. -/
import Derived.Test.YtgmbfnboiobeaaaGreatRows
import Derived.WalkKit
import Derived.OpenShut
import Derived.ChangeMaps5
import Derived.Test.YtgmbfnboiobeaaaGreatDurableLivesM3
set_option linter.all false
set_option maxRecDepth 100000
namespace Go.Proofs.YtgmbfnboiobeaaaGreat.LDurableLives
open Go Go.Sep Go.ChangeShapes Go.WideShapes Go.ChangeAt Go.ChangeMaps Go.RowKit
theorem own:ownKnob Tryz.prog.godebug = none:=by kernel_rfl
set_option maxRecDepth 100000 in
theorem lifted (os:Os) (started:os.Started) (H:Type) (enc:TypeId×Value→H) :
  ReturnsInHanded {} Tryz.checked os 4 .any (Rows.durableLivesSpec.pre6 enc Tryz.prog Tryz.f4 Rows.durableLivesRow.domain false) (Rows.durableLivesSpec.post enc Tryz.prog Tryz.f4 false true false false):=by
 refine returnsInHanded_of_change (C:=Tryz.checked) own started (by kernel_rfl) Tryz.func4
  (ChangeSpec.witness6 (enc:=enc) (C:=Tryz.checked) false ⟨#[],#[.slice none 0 0,.bool false,.int .u64 0],[]⟩ 8 (by kernel_rfl) (by kernel_rfl) (by kernel_rfl) (by kernel_rfl)) ?_
 intro W base args ds gs before hval0 hW hcnd _
 have hval:∀ (j:Nat) t v,Tryz.f4.params[j]? = some t→args[j]? = some v→Value.okWide Tryz.prog W .any base t v:=hval0
 have hW':=hW
 obtain ⟨p,q,hA0,hV,rfl,hfz,hnd⟩:=hW
 have hA:DataW.TrodAll enc Tryz.prog W 0 (fun _=>true) true Tryz.f4.params.toList args.toList ds p:=hA0
 rw [Tryz.params4] at hA hval
 obtain ⟨v0,vs0,d0,ds0,p0,q0,hargs,rfl,rfl,h0,r0⟩:=trodAll_cons hA
 obtain ⟨v1,vs1,d1,ds1,p1,q1,rfl,rfl,rfl,h1,r1⟩:=trodAll_cons r0
 obtain ⟨v2,vs2,d2,ds2,p2,q2,rfl,rfl,rfl,h2,r2⟩:=trodAll_cons r1
 obtain ⟨rfl,rfl,rfl⟩:=trodAll_nil r2
 obtain rfl:args = #[v0,v1,v2]:=by cases args; simp_all
 obtain ⟨rfl,rfl⟩:=trodVars_none hV
 have y0:=(congrArg (fun s=>Rdy W s v0.cells.toList) zOf).mp (zGt (n:=9) h0)
 obtain ⟨a0,n0,c0,rfl⟩:=okWide_slice Tryz.underlying32 (hval 0 32 v0 rfl rfl)
 obtain ⟨x1,rfl,rfl,rfl⟩:=open_bool Tryz.underlying4 (hval 1 4 v1 rfl rfl) h1
 obtain ⟨x2,rfl,rfl,rfl,w2⟩:=open_int Tryz.underlying33 (hval 2 33 v2 rfl rfl) h2
 simp only [List.append_nil] at hW'
 refine (zCV W ⟨a0,n0,c0⟩ y0 x1 x2 w2).mono fun e W' he=>?_
 obtain ⟨rfl,hb⟩:=zLY he
 exact ⟨_,rfl,zJ8 (by kernel_rfl) (by kernel_rfl) rfl Tryz.underlying4 hW' rfl (by simpa using hA0) rfl rfl rfl hb⟩
theorem over:Rows.durableLivesRow.holds Tryz.pinned (OpenSpec.ofChange Rows.durableLivesSpec) :=
 OpenClaim.holds_of_wide 4 Tryz.f4 rfl rfl rfl rfl rfl rfl rfl ⟨rfl,rfl,rfl,rfl,rfl⟩ rfl rfl rfl rfl rfl (by kernel_rfl) Tryz.func4 (by kernel_rfl)
  (of_decide_eq_true (by kernel_rfl)) (by unfold Func.isWrapper; first | (rw [if_pos (by decide +kernel)]; kernel_rfl) | (rw [if_neg (by decide +kernel)]; exact ⟨rfl,rfl⟩))
  (fun os started H enc _=>lifted os started H enc)
end Go.Proofs.YtgmbfnboiobeaaaGreat.LDurableLives
namespace Go.Proofs.YtgmbfnboiobeaaaGreat
theorem DurableLives_holds:Rows.DurableLivesSaid:=LDurableLives.over
#print axioms DurableLives_holds
end Go.Proofs.YtgmbfnboiobeaaaGreat
