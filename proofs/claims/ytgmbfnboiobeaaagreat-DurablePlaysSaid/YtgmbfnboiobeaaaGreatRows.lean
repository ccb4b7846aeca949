/-
  No cell of these rows narrows 'for every input' (looked for: loops, veiled, ifaces, maps, wideKeys, modest, calm, conditions, laid).
  DERIVED. THE GIVEN ROWS OF THIS SEAT. 3 by the template 'for every input the law returns true; each argument reads behind the call as it read before'; 0 by the template 'total and deterministic' (their statements: YtgmbfnboiobeaaaGreatTotals.lean).
  GIVEN WITH THE SEED: the statements are not yours to turn. If you find one false, say at which input.
  Laid BY PROGRAM, IN A SANDBOX (cutbox-rows.mjs): the forced cells as the released guide's own fill.sh prints them over the translation b8df2c728a36db0b… (all of the seat's roots in one cut). By AI agents, Wed Nov 11 2026. No macro, syntax, notation, axiom, sorry.
-/
import Derived.Test.YtgmbfnboiobeaaaGreatChecked
import GoSem.Claim
import GoSem.ClaimJoined
import GoSem.ClaimMapViews
import Derived.JoinedTies
import Derived.KernelRfl
namespace Go.Proofs.YtgmbfnboiobeaaaGreat
/- THE CELL 'sum', in the pinned program and in every row, IS THE sha256 OF THE DUMP (.gsa) THAT YtgmbfnboiobeaaaGreatProg.lean LOADS. Nothing in Lean hashes anything: it is a label: what it is worth is what the hold of that sum in a sandbox is worth. -/
noncomputable def Tryz.pinned : Pinned := { name := "ytgmbfnboiobeaaagreat", sum := "b8df2c728a36db0be20a8ffc6dbd0e00372463c21eb4e88e1347e7e56fddeda0", checked := Tryz.checked }
namespace Rows
def none {H : Type} : Left H := { results := [], args := [] }

/-- 'argosylaw22.DurableStates': WHATEVER THE INPUT: true; the input reads as it did. -/
def durableStatesSpec : ChangeSpec := { name := "durableStates", fn := fun _ => fun
  | [d1, d2, d3] => { results := [.lit (.bool true)], args := [d1, d2, d3] }
  | _ => none }
def durableStatesRow : OpenClaim := { program := "ytgmbfnboiobeaaagreat", sum := "b8df2c728a36db0be20a8ffc6dbd0e00372463c21eb4e88e1347e7e56fddeda0", func := "argosy/argosylaw22.DurableStates", spec := "durableStates", inPlace := ["slices.overlaps[argosy/btree.item[int, argosy/api.Vote[string]]]", "slices.overlaps[*argosy/btree.node[int, argosy/api.Vote[string]]]"], unfollowed := true, recurses := true, apart := false }
def DurableStatesSaid : Prop := durableStatesRow.holds Tryz.pinned (OpenSpec.ofChange durableStatesSpec)

/-- ITS FALSE NEIGHBOUR: 'it returns false'. Refute it at one input. -/
def durableStatesWrong : ChangeSpec := { name := "durableStates", fn := fun _ => fun
  | [d1, d2, d3] => { results := [.lit (.bool false)], args := [d1, d2, d3] }
  | _ => none }
def DurableStatesWrongFalsely : Prop := durableStatesRow.holds Tryz.pinned (OpenSpec.ofChange durableStatesWrong)

/-- 'argosylaw22.DurableLives': WHATEVER THE INPUT: true; the input reads as it did. -/
def durableLivesSpec : ChangeSpec := { name := "durableLives", fn := fun _ => fun
  | [d1, d2, d3] => { results := [.lit (.bool true)], args := [d1, d2, d3] }
  | _ => none }
def durableLivesRow : OpenClaim := { program := "ytgmbfnboiobeaaagreat", sum := "b8df2c728a36db0be20a8ffc6dbd0e00372463c21eb4e88e1347e7e56fddeda0", func := "argosy/argosylaw22.DurableLives", spec := "durableLives", inPlace := ["slices.overlaps[argosy/btree.item[int, argosy/api.Vote[string]]]", "slices.overlaps[*argosy/btree.node[int, argosy/api.Vote[string]]]"], unfollowed := true, recurses := true, apart := false }
def DurableLivesSaid : Prop := durableLivesRow.holds Tryz.pinned (OpenSpec.ofChange durableLivesSpec)

/-- ITS FALSE NEIGHBOUR: 'it returns false'. Refute it at one input. -/
def durableLivesWrong : ChangeSpec := { name := "durableLives", fn := fun _ => fun
  | [d1, d2, d3] => { results := [.lit (.bool false)], args := [d1, d2, d3] }
  | _ => none }
def DurableLivesWrongFalsely : Prop := durableLivesRow.holds Tryz.pinned (OpenSpec.ofChange durableLivesWrong)

/-- 'argosylaw22.DurablePlays': WHATEVER THE INPUT: true; the input reads as it did. -/
def durablePlaysSpec : ChangeSpec := { name := "durablePlays", fn := fun _ => fun
  | [d1, d2, d3] => { results := [.lit (.bool true)], args := [d1, d2, d3] }
  | _ => none }
def durablePlaysRow : OpenClaim := { program := "ytgmbfnboiobeaaagreat", sum := "b8df2c728a36db0be20a8ffc6dbd0e00372463c21eb4e88e1347e7e56fddeda0", func := "argosy/argosylaw22.DurablePlays", spec := "durablePlays", inPlace := ["slices.overlaps[argosy/btree.item[int, argosy/api.Vote[string]]]", "slices.overlaps[*argosy/btree.node[int, argosy/api.Vote[string]]]"], unfollowed := true, recurses := true, apart := false }
def DurablePlaysSaid : Prop := durablePlaysRow.holds Tryz.pinned (OpenSpec.ofChange durablePlaysSpec)

/-- ITS FALSE NEIGHBOUR: 'it returns false'. Refute it at one input. -/
def durablePlaysWrong : ChangeSpec := { name := "durablePlays", fn := fun _ => fun
  | [d1, d2, d3] => { results := [.lit (.bool false)], args := [d1, d2, d3] }
  | _ => none }
def DurablePlaysWrongFalsely : Prop := durablePlaysRow.holds Tryz.pinned (OpenSpec.ofChange durablePlaysWrong)

/- THE SECOND FORM. 'bulk': how many values and letters a reading holds, each counted each time it is reached (what is shared counts as often as it is met; a slice's spare places count too). A statement '..UptoSaid' is the law's where the arguments, and the package variables that the reading takes, are together of bulk at most 1048576: NARROWER than '..Said'. Prove '..Said' where nothing that the law and all that it calls make is longer than what came in: it says more and counts as full. Else prove '..UptoSaid'. A law counts once. -/
mutual
def uptoBulk {H : Type} : DataW H → Nat
  | .lit (.string bytes) => bytes.length + 1
  | .lit _ => 1
  | .nil => 1
  | .ptr d => uptoBulk d + 1
  | .slice elems spare => uptoBulkAll elems + uptoBulkAll spare + 1
  | .agg parts => uptoBulkAll parts + 1
  | .iface _ d => uptoBulk d + 1
  | .map entries => uptoBulkEntries entries + 1
  | .held _ => 1
def uptoBulkAll {H : Type} : List (DataW H) → Nat
  | [] => 0
  | d :: r => uptoBulk d + uptoBulkAll r
def uptoBulkEntries {H : Type} : List (Lit × DataW H) → Nat
  | [] => 0
  | x :: r => uptoBulkEntry x + uptoBulkEntries r
def uptoBulkEntry {H : Type} : Lit × DataW H → Nat
  | (.string bytes, d) => bytes.length + uptoBulk d + 1
  | (_, d) => uptoBulk d + 1
 end
def uptoSmall : (H : Type) → List (DataW H) → Bool := fun _ ds => decide (uptoBulkAll ds ≤ 1048576)
def OpenSpec.upto (s : _root_.Go.ChangeSpec) : _root_.Go.OpenSpec := { _root_.Go.OpenSpec.ofChange s with cond := some uptoSmall }

/-- 'argosylaw22.DurableStates', WHERE WHAT IT READS IS OF BULK AT MOST 1048576: true; the input reads as it did. -/
def durableStatesUptoRow : OpenClaim := { program := "ytgmbfnboiobeaaagreat", sum := "b8df2c728a36db0be20a8ffc6dbd0e00372463c21eb4e88e1347e7e56fddeda0", func := "argosy/argosylaw22.DurableStates", spec := "durableStates", inPlace := ["slices.overlaps[argosy/btree.item[int, argosy/api.Vote[string]]]", "slices.overlaps[*argosy/btree.node[int, argosy/api.Vote[string]]]"], unfollowed := true, recurses := true, apart := false, narrowed := true }
def DurableStatesUptoSaid : Prop := durableStatesUptoRow.holds Tryz.pinned (OpenSpec.upto durableStatesSpec)

/-- 'argosylaw22.DurableLives', WHERE WHAT IT READS IS OF BULK AT MOST 1048576: true; the input reads as it did. -/
def durableLivesUptoRow : OpenClaim := { program := "ytgmbfnboiobeaaagreat", sum := "b8df2c728a36db0be20a8ffc6dbd0e00372463c21eb4e88e1347e7e56fddeda0", func := "argosy/argosylaw22.DurableLives", spec := "durableLives", inPlace := ["slices.overlaps[argosy/btree.item[int, argosy/api.Vote[string]]]", "slices.overlaps[*argosy/btree.node[int, argosy/api.Vote[string]]]"], unfollowed := true, recurses := true, apart := false, narrowed := true }
def DurableLivesUptoSaid : Prop := durableLivesUptoRow.holds Tryz.pinned (OpenSpec.upto durableLivesSpec)

/-- 'argosylaw22.DurablePlays', WHERE WHAT IT READS IS OF BULK AT MOST 1048576: true; the input reads as it did. -/
def durablePlaysUptoRow : OpenClaim := { program := "ytgmbfnboiobeaaagreat", sum := "b8df2c728a36db0be20a8ffc6dbd0e00372463c21eb4e88e1347e7e56fddeda0", func := "argosy/argosylaw22.DurablePlays", spec := "durablePlays", inPlace := ["slices.overlaps[argosy/btree.item[int, argosy/api.Vote[string]]]", "slices.overlaps[*argosy/btree.node[int, argosy/api.Vote[string]]]"], unfollowed := true, recurses := true, apart := false, narrowed := true }
def DurablePlaysUptoSaid : Prop := durablePlaysUptoRow.holds Tryz.pinned (OpenSpec.upto durablePlaysSpec)

end Rows
end Go.Proofs.YtgmbfnboiobeaaaGreat
