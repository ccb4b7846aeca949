/- The disk's Used, and a name in a list of names. -/
import Derived.Test.YtgnkminakongkaaSSpeak3
namespace Go.Proofs.Ytgnkminakongkaa
open Go Go.Sep
set_option linter.unusedSimpArgs false
set_option linter.unusedVariables false
set_option maxRecDepth 100000
section
variable {B w : World} {Γ : List HProp}
theorem used_specR {d : Nat} {D : DiskD} {k : Int → K} (hD : OkD D) (h : Holds B (DiskR d D :: Γ) w) (hk : ∀ w, Holds B (DiskR d D :: Γ) w → k (usedL D.files : Int) w) : disk_Disk_Used.call (some ⟨d, 0, none⟩) k w := by
  obtain ⟨mb, fs, hp, h⟩ := DiskR.opens h
  have hux : usedX fs = usedL D.files := by rw [usedX_plain, hp]
  have hus := hD.used
  have hro := hD.roomN
  refine used_spec (by omega) h fun w h => ?_
  rw [hux]
  exact hk _ (DiskR.shuts rfl hp h)
/-- A name of a slice of names. -/
theorem r_name {s : Sl} {ns : List (List UInt8)} {j : Nat} {n : List UInt8} {k : ByteArray → K} (hr : RdC w s 1 (ns.map strV)) (hx : ns[j]? = some n) (hk : k (bs n) w) : Idx s (j : Int) 1 (fun t => Ld t Value.string k) w := by
  have hr2 : RdC w s 1 ((ns.map bs).map Value.string) := by rw [List.map_map]; exact hr
  exact r_idx1 hr2 (by rw [List.getElem?_map, hx]; rfl) hk

end
end Go.Proofs.Ytgnkminakongkaa
