/- The claim DurablePlays. Holds for every input. -/
import Derived.Test.YtgmbfnboiobeaaaGreatRows
import Derived.WalkKit
import Derived.OpenShut
import Derived.ChangeMaps5
import Derived.Test.YtgmbfnboiobeaaaGreatDurablePlaysM5
set_option linter.all false
set_option maxRecDepth 100000
namespace Go.Proofs.YtgmbfnboiobeaaaGreat.LDurablePlays
open Go Go.Sep Go.ChangeShapes Go.WideShapes Go.ChangeAt Go.ChangeMaps Go.RowKit
theorem own:ownKnob Tryz.prog.godebug = none:=by kernel_rfl
set_option maxRecDepth 100000 in
theorem lifted (os:Os) (started:os.Started) (H:Type) (enc:TypeId×Value→H) :
  ReturnsInHanded {} Tryz.checked os 5 .any (Rows.durablePlaysSpec.pre6 enc Tryz.prog Tryz.f5 Rows.durablePlaysRow.domain false) (Rows.durablePlaysSpec.post enc Tryz.prog Tryz.f5 false true false false):=by
 refine returnsInHanded_of_change (C:=Tryz.checked) own started (by kernel_rfl) Tryz.func5
  (ChangeSpec.witness6 (enc:=enc) (C:=Tryz.checked) false ⟨#[],#[.slice none 0 0,.int .i64 0,.slice none 0 0],[]⟩ 8 (by kernel_rfl) (by kernel_rfl) (by kernel_rfl) (by kernel_rfl)) ?_
 intro W base args ds gs before hval0 hW hcnd _
 have hval:∀ (j:Nat) t v,Tryz.f5.params[j]? = some t→args[j]? = some v→Value.okWide Tryz.prog W .any base t v:=hval0
 have hW':=hW
 obtain ⟨p,q,hA0,hV,rfl,hfz,hnd⟩:=hW
 have hA:DataW.TrodAll enc Tryz.prog W 0 (fun _=>true) true Tryz.f5.params.toList args.toList ds p:=hA0
 rw [Tryz.params5] at hA hval
 obtain ⟨v0,vs0,d0,ds0,p0,q0,hargs,rfl,rfl,h0,r0⟩:=trodAll_cons hA
 obtain ⟨v1,vs1,d1,ds1,p1,q1,rfl,rfl,rfl,h1,r1⟩:=trodAll_cons r0
 obtain ⟨v2,vs2,d2,ds2,p2,q2,rfl,rfl,rfl,h2,r2⟩:=trodAll_cons r1
 obtain ⟨rfl,rfl,rfl⟩:=trodAll_nil r2
 obtain rfl:args = #[v0,v1,v2]:=by cases args; simp_all
 obtain ⟨rfl,rfl⟩:=trodVars_none hV
 have y0:=(congrArg (fun s=>Rdy W s v0.cells.toList) zZx).mp (zJH (n:=9) h0)
 obtain ⟨a0,n0,c0,rfl⟩:=okWide_slice Tryz.underlying32 (hval 0 32 v0 rfl rfl)
 obtain ⟨x1,rfl,rfl,rfl,w1⟩:=open_int Tryz.underlying3 (hval 1 3 v1 rfl rfl) h1
 have y2:=(congrArg (fun s=>Rdy W s v2.cells.toList) zZy).mp (zJH (n:=9) h2)
 obtain ⟨a2,n2,c2,rfl⟩:=okWide_slice Tryz.underlying46 (hval 2 46 v2 rfl rfl)
 simp only [List.append_nil] at hW'
 refine (zIR W ⟨a0,n0,c0⟩ y0 x1 w1 ⟨a2,n2,c2⟩ y2).mono fun e W' he=>?_
 obtain ⟨rfl,hb⟩:=zWD he
 exact ⟨_,rfl,zUD (by kernel_rfl) (by kernel_rfl) rfl Tryz.underlying4 hW' rfl (by simpa using hA0) rfl rfl rfl hb⟩
theorem over:Rows.durablePlaysRow.holds Tryz.pinned (OpenSpec.ofChange Rows.durablePlaysSpec) :=
 OpenClaim.holds_of_wide 5 Tryz.f5 rfl rfl rfl rfl rfl rfl rfl ⟨rfl,rfl,rfl,rfl,rfl⟩ rfl rfl rfl rfl rfl (by kernel_rfl) Tryz.func5 (by kernel_rfl)
  (of_decide_eq_true (by kernel_rfl)) (by unfold Func.isWrapper; first | (rw [if_pos (by decide +kernel)]; kernel_rfl) | (rw [if_neg (by decide +kernel)]; exact ⟨rfl,rfl⟩))
  (fun os started H enc _=>lifted os started H enc)
end Go.Proofs.YtgmbfnboiobeaaaGreat.LDurablePlays
namespace Go.Proofs.YtgmbfnboiobeaaaGreat
theorem DurablePlays_holds:Rows.DurablePlaysSaid:=LDurablePlays.over
#print axioms DurablePlays_holds
end Go.Proofs.YtgmbfnboiobeaaaGreat
