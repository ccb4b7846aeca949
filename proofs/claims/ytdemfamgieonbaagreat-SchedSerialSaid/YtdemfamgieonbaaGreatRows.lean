/-
  No cell of these rows narrows 'for every input' (looked for: loops, veiled, ifaces, maps, wideKeys, modest, calm, conditions, laid).
  DERIVED. THE GIVEN ROWS OF THIS SEAT. 5 by the template 'for every input the law returns true; each argument reads behind the call as it read before'; 0 by the template 'total and deterministic' (their statements: YtdemfamgieonbaaGreatTotals.lean).
  GIVEN WITH THE SEED: the statements are not yours to turn. If you find one false, say at which input.
  Laid BY PROGRAM, IN A SANDBOX (cutbox-rows.mjs): the forced cells as the released guide's own fill.sh prints them over the translation 8b8abce39a520868… (all of the seat's roots in one cut). By AI agents, Wed Nov 11 2026. No macro, syntax, notation, axiom, sorry.
-/
import Derived.Test.YtdemfamgieonbaaGreatChecked
import GoSem.Claim
import GoSem.ClaimJoined
import GoSem.ClaimMapViews
import Derived.JoinedTies
import Derived.KernelRfl
namespace Go.Proofs.YtdemfamgieonbaaGreat
/- THE CELL 'sum', in the pinned program and in every row, IS THE sha256 OF THE DUMP (.gsa) THAT YtdemfamgieonbaaGreatProg.lean LOADS. Nothing in Lean hashes anything: it is a label: what it is worth is what the hold of that sum in a sandbox is worth. -/
noncomputable def Tryz.pinned : Pinned := { name := "ytdemfamgieonbaagreat", sum := "8b8abce39a5208687f3bc8f28c8370599c73b65f5664cf3100adad97262d9a3f", checked := Tryz.checked }
namespace Rows
def none {H : Type} : Left H := { results := [], args := [] }

/-- 'argosylaw17.SchedWhole': WHATEVER THE INPUT: true; the input reads as it did. -/
def schedWholeSpec : ChangeSpec := { name := "schedWhole", fn := fun _ => fun
  | [d1, d2] => { results := [.lit (.bool true)], args := [d1, d2] }
  | _ => none }
def schedWholeRow : OpenClaim := { program := "ytdemfamgieonbaagreat", sum := "8b8abce39a5208687f3bc8f28c8370599c73b65f5664cf3100adad97262d9a3f", func := "argosy/argosylaw17.SchedWhole", spec := "schedWhole", inPlace := ["slices.overlaps[argosy/btree.item[string, argosy/api.Record]]", "slices.overlaps[*argosy/btree.node[string, argosy/api.Record]]"], unfollowed := true, recurses := true, plainKeys := false, apart := false }
def SchedWholeSaid : Prop := schedWholeRow.holds Tryz.pinned (OpenSpec.ofChange schedWholeSpec)

/-- ITS FALSE NEIGHBOUR: 'it returns false'. Refute it at one input. -/
def schedWholeWrong : ChangeSpec := { name := "schedWhole", fn := fun _ => fun
  | [d1, d2] => { results := [.lit (.bool false)], args := [d1, d2] }
  | _ => none }
def SchedWholeWrongFalsely : Prop := schedWholeRow.holds Tryz.pinned (OpenSpec.ofChange schedWholeWrong)

/-- 'argosylaw21.FrontTells': WHATEVER THE INPUT: true; the input reads as it did. -/
def frontTellsSpec : ChangeSpec := { name := "frontTells", fn := fun _ => fun
  | [d1, d2] => { results := [.lit (.bool true)], args := [d1, d2] }
  | _ => none }
def frontTellsRow : OpenClaim := { program := "ytdemfamgieonbaagreat", sum := "8b8abce39a5208687f3bc8f28c8370599c73b65f5664cf3100adad97262d9a3f", func := "argosy/argosylaw21.FrontTells", spec := "frontTells", inPlace := ["slices.overlaps[argosy/btree.item[string, argosy/api.Record]]", "slices.overlaps[*argosy/btree.node[string, argosy/api.Record]]"], unfollowed := true, recurses := true, plainKeys := false, apart := false }
def FrontTellsSaid : Prop := frontTellsRow.holds Tryz.pinned (OpenSpec.ofChange frontTellsSpec)

/-- ITS FALSE NEIGHBOUR: 'it returns false'. Refute it at one input. -/
def frontTellsWrong : ChangeSpec := { name := "frontTells", fn := fun _ => fun
  | [d1, d2] => { results := [.lit (.bool false)], args := [d1, d2] }
  | _ => none }
def FrontTellsWrongFalsely : Prop := frontTellsRow.holds Tryz.pinned (OpenSpec.ofChange frontTellsWrong)

/-- 'argosylaw17.SchedSerial': WHATEVER THE INPUT: true; the input reads as it did. -/
def schedSerialSpec : ChangeSpec := { name := "schedSerial", fn := fun _ => fun
  | [d1, d2] => { results := [.lit (.bool true)], args := [d1, d2] }
  | _ => none }
def schedSerialRow : OpenClaim := { program := "ytdemfamgieonbaagreat", sum := "8b8abce39a5208687f3bc8f28c8370599c73b65f5664cf3100adad97262d9a3f", func := "argosy/argosylaw17.SchedSerial", spec := "schedSerial", inPlace := ["slices.overlaps[argosy/btree.item[string, argosy/api.Record]]", "slices.overlaps[*argosy/btree.node[string, argosy/api.Record]]"], unfollowed := true, recurses := true, plainKeys := false, apart := false }
def SchedSerialSaid : Prop := schedSerialRow.holds Tryz.pinned (OpenSpec.ofChange schedSerialSpec)

/-- ITS FALSE NEIGHBOUR: 'it returns false'. Refute it at one input. -/
def schedSerialWrong : ChangeSpec := { name := "schedSerial", fn := fun _ => fun
  | [d1, d2] => { results := [.lit (.bool false)], args := [d1, d2] }
  | _ => none }
def SchedSerialWrongFalsely : Prop := schedSerialRow.holds Tryz.pinned (OpenSpec.ofChange schedSerialWrong)

/-- 'argosylaw21.FrontPlays': WHATEVER THE INPUT: true; the input reads as it did. -/
def frontPlaysSpec : ChangeSpec := { name := "frontPlays", fn := fun _ => fun
  | [d1, d2] => { results := [.lit (.bool true)], args := [d1, d2] }
  | _ => none }
def frontPlaysRow : OpenClaim := { program := "ytdemfamgieonbaagreat", sum := "8b8abce39a5208687f3bc8f28c8370599c73b65f5664cf3100adad97262d9a3f", func := "argosy/argosylaw21.FrontPlays", spec := "frontPlays", inPlace := ["slices.overlaps[argosy/btree.item[string, argosy/api.Record]]", "slices.overlaps[*argosy/btree.node[string, argosy/api.Record]]"], unfollowed := true, recurses := true, plainKeys := false, apart := false }
def FrontPlaysSaid : Prop := frontPlaysRow.holds Tryz.pinned (OpenSpec.ofChange frontPlaysSpec)

/-- ITS FALSE NEIGHBOUR: 'it returns false'. Refute it at one input. -/
def frontPlaysWrong : ChangeSpec := { name := "frontPlays", fn := fun _ => fun
  | [d1, d2] => { results := [.lit (.bool false)], args := [d1, d2] }
  | _ => none }
def FrontPlaysWrongFalsely : Prop := frontPlaysRow.holds Tryz.pinned (OpenSpec.ofChange frontPlaysWrong)

/-- 'argosylaw17.SchedTwice': WHATEVER THE INPUT: true; the input reads as it did. -/
def schedTwiceSpec : ChangeSpec := { name := "schedTwice", fn := fun _ => fun
  | [d1, d2] => { results := [.lit (.bool true)], args := [d1, d2] }
  | _ => none }
def schedTwiceRow : OpenClaim := { program := "ytdemfamgieonbaagreat", sum := "8b8abce39a5208687f3bc8f28c8370599c73b65f5664cf3100adad97262d9a3f", func := "argosy/argosylaw17.SchedTwice", spec := "schedTwice", inPlace := ["slices.overlaps[argosy/btree.item[string, argosy/api.Record]]", "slices.overlaps[*argosy/btree.node[string, argosy/api.Record]]"], unfollowed := true, recurses := true, plainKeys := false, apart := false }
def SchedTwiceSaid : Prop := schedTwiceRow.holds Tryz.pinned (OpenSpec.ofChange schedTwiceSpec)

/-- ITS FALSE NEIGHBOUR: 'it returns false'. Refute it at one input. -/
def schedTwiceWrong : ChangeSpec := { name := "schedTwice", fn := fun _ => fun
  | [d1, d2] => { results := [.lit (.bool false)], args := [d1, d2] }
  | _ => none }
def SchedTwiceWrongFalsely : Prop := schedTwiceRow.holds Tryz.pinned (OpenSpec.ofChange schedTwiceWrong)

/- THE SECOND FORM. 'bulk': how many values and letters a reading holds, each counted each time it is reached (what is shared counts as often as it is met; a slice's spare places count too). A statement '..UptoSaid' is the law's where the arguments, and the package variables that the reading takes, are together of bulk at most 1048576: NARROWER than '..Said'. Prove '..Said' where nothing that the law and all that it calls make is longer than what came in: it says more and counts as full. Else prove '..UptoSaid'. A law counts once. -/
mutual
def uptoBulk {H : Type} : DataW H → Nat
  | .lit (.string bytes) => bytes.length + 1
  | .lit _ => 1
  | .nil => 1
  | .ptr d => uptoBulk d + 1
  | .slice elems spare => uptoBulkAll elems + uptoBulkAll spare + 1
  | .agg parts => uptoBulkAll parts + 1
  | .iface _ d => uptoBulk d + 1
  | .map entries => uptoBulkEntries entries + 1
  | .held _ => 1
def uptoBulkAll {H : Type} : List (DataW H) → Nat
  | [] => 0
  | d :: r => uptoBulk d + uptoBulkAll r
def uptoBulkEntries {H : Type} : List (Lit × DataW H) → Nat
  | [] => 0
  | x :: r => uptoBulkEntry x + uptoBulkEntries r
def uptoBulkEntry {H : Type} : Lit × DataW H → Nat
  | (.string bytes, d) => bytes.length + uptoBulk d + 1
  | (_, d) => uptoBulk d + 1
 end
def uptoSmall : (H : Type) → List (DataW H) → Bool := fun _ ds => decide (uptoBulkAll ds ≤ 1048576)
def OpenSpec.upto (s : _root_.Go.ChangeSpec) : _root_.Go.OpenSpec := { _root_.Go.OpenSpec.ofChange s with cond := some uptoSmall }

/-- 'argosylaw17.SchedWhole', WHERE WHAT IT READS IS OF BULK AT MOST 1048576: true; the input reads as it did. -/
def schedWholeUptoRow : OpenClaim := { program := "ytdemfamgieonbaagreat", sum := "8b8abce39a5208687f3bc8f28c8370599c73b65f5664cf3100adad97262d9a3f", func := "argosy/argosylaw17.SchedWhole", spec := "schedWhole", inPlace := ["slices.overlaps[argosy/btree.item[string, argosy/api.Record]]", "slices.overlaps[*argosy/btree.node[string, argosy/api.Record]]"], unfollowed := true, recurses := true, plainKeys := false, apart := false, narrowed := true }
def SchedWholeUptoSaid : Prop := schedWholeUptoRow.holds Tryz.pinned (OpenSpec.upto schedWholeSpec)

/-- 'argosylaw21.FrontTells', WHERE WHAT IT READS IS OF BULK AT MOST 1048576: true; the input reads as it did. -/
def frontTellsUptoRow : OpenClaim := { program := "ytdemfamgieonbaagreat", sum := "8b8abce39a5208687f3bc8f28c8370599c73b65f5664cf3100adad97262d9a3f", func := "argosy/argosylaw21.FrontTells", spec := "frontTells", inPlace := ["slices.overlaps[argosy/btree.item[string, argosy/api.Record]]", "slices.overlaps[*argosy/btree.node[string, argosy/api.Record]]"], unfollowed := true, recurses := true, plainKeys := false, apart := false, narrowed := true }
def FrontTellsUptoSaid : Prop := frontTellsUptoRow.holds Tryz.pinned (OpenSpec.upto frontTellsSpec)

/-- 'argosylaw17.SchedSerial', WHERE WHAT IT READS IS OF BULK AT MOST 1048576: true; the input reads as it did. -/
def schedSerialUptoRow : OpenClaim := { program := "ytdemfamgieonbaagreat", sum := "8b8abce39a5208687f3bc8f28c8370599c73b65f5664cf3100adad97262d9a3f", func := "argosy/argosylaw17.SchedSerial", spec := "schedSerial", inPlace := ["slices.overlaps[argosy/btree.item[string, argosy/api.Record]]", "slices.overlaps[*argosy/btree.node[string, argosy/api.Record]]"], unfollowed := true, recurses := true, plainKeys := false, apart := false, narrowed := true }
def SchedSerialUptoSaid : Prop := schedSerialUptoRow.holds Tryz.pinned (OpenSpec.upto schedSerialSpec)

/-- 'argosylaw21.FrontPlays', WHERE WHAT IT READS IS OF BULK AT MOST 1048576: true; the input reads as it did. -/
def frontPlaysUptoRow : OpenClaim := { program := "ytdemfamgieonbaagreat", sum := "8b8abce39a5208687f3bc8f28c8370599c73b65f5664cf3100adad97262d9a3f", func := "argosy/argosylaw21.FrontPlays", spec := "frontPlays", inPlace := ["slices.overlaps[argosy/btree.item[string, argosy/api.Record]]", "slices.overlaps[*argosy/btree.node[string, argosy/api.Record]]"], unfollowed := true, recurses := true, plainKeys := false, apart := false, narrowed := true }
def FrontPlaysUptoSaid : Prop := frontPlaysUptoRow.holds Tryz.pinned (OpenSpec.upto frontPlaysSpec)

/-- 'argosylaw17.SchedTwice', WHERE WHAT IT READS IS OF BULK AT MOST 1048576: true; the input reads as it did. -/
def schedTwiceUptoRow : OpenClaim := { program := "ytdemfamgieonbaagreat", sum := "8b8abce39a5208687f3bc8f28c8370599c73b65f5664cf3100adad97262d9a3f", func := "argosy/argosylaw17.SchedTwice", spec := "schedTwice", inPlace := ["slices.overlaps[argosy/btree.item[string, argosy/api.Record]]", "slices.overlaps[*argosy/btree.node[string, argosy/api.Record]]"], unfollowed := true, recurses := true, plainKeys := false, apart := false, narrowed := true }
def SchedTwiceUptoSaid : Prop := schedTwiceUptoRow.holds Tryz.pinned (OpenSpec.upto schedTwiceSpec)

end Rows
end Go.Proofs.YtdemfamgieonbaaGreat
