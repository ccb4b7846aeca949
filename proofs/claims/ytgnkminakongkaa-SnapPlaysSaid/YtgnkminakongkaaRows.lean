/-
  No cell of these rows narrows 'for every input' (looked for: loops, veiled, ifaces, maps, wideKeys, modest, calm, conditions, laid).
  DERIVED. THE GIVEN ROWS OF THIS SEAT. 11 by the template 'for every input the law returns true; each argument reads behind the call as it read before'; 0 by the template 'total and deterministic' (their statements: YtgnkminakongkaaTotals.lean).
  GIVEN WITH THE SEED: the statements are not yours to turn. If you find one false, say at which input.
  Laid BY PROGRAM, IN A SANDBOX (cutbox-rows.mjs): the forced cells as the released guide's own fill.sh prints them over the translation 8644074c292132c4… (all of the seat's roots in one cut). By AI agents, Wed Nov 11 2026. No macro, syntax, notation, axiom, sorry.
-/
import Derived.Test.YtgnkminakongkaaChecked
import GoSem.Claim
import GoSem.ClaimJoined
import GoSem.ClaimMapViews
import Derived.JoinedTies
import Derived.KernelRfl
namespace Go.Proofs.Ytgnkminakongkaa
/- THE CELL 'sum', in the pinned program and in every row, IS THE sha256 OF THE DUMP (.gsa) THAT YtgnkminakongkaaProg.lean LOADS. Nothing in Lean hashes anything: it is a label: what it is worth is what the hold of that sum in a sandbox is worth. -/
noncomputable def Try.pinned : Pinned := { name := "ytgnkminakongkaa", sum := "8644074c292132c49df7b4bd5e47c161dd486f3214d41b634d7d7a3b9524efd8", checked := Try.checked }
namespace Rows
def none {H : Type} : Left H := { results := [], args := [] }

/-- 'argosylaw10.RouteOnce': WHATEVER THE INPUT: true; the input reads as it did. -/
def routeOnceSpec : ChangeSpec := { name := "routeOnce", fn := fun _ => fun
  | [d1, d2] => { results := [.lit (.bool true)], args := [d1, d2] }
  | _ => none }
def routeOnceRow : OpenClaim := { program := "ytgnkminakongkaa", sum := "8644074c292132c49df7b4bd5e47c161dd486f3214d41b634d7d7a3b9524efd8", func := "argosy/argosylaw10.RouteOnce", spec := "routeOnce", inPlace := ["slices.overlaps[argosy/btree.item[string, argosy/api.Record]]", "slices.overlaps[*argosy/btree.node[string, argosy/api.Record]]"], unfollowed := true, recurses := true, apart := false }
def RouteOnceSaid : Prop := routeOnceRow.holds Try.pinned (OpenSpec.ofChange routeOnceSpec)

/-- ITS FALSE NEIGHBOUR: 'it returns false'. Refute it at one input. -/
def routeOnceWrong : ChangeSpec := { name := "routeOnce", fn := fun _ => fun
  | [d1, d2] => { results := [.lit (.bool false)], args := [d1, d2] }
  | _ => none }
def RouteOnceWrongFalsely : Prop := routeOnceRow.holds Try.pinned (OpenSpec.ofChange routeOnceWrong)

/-- 'argosylaw03.DiskLasts': WHATEVER THE INPUT: true; the input reads as it did. -/
def diskLastsSpec : ChangeSpec := { name := "diskLasts", fn := fun _ => fun
  | [d1, d2, d3] => { results := [.lit (.bool true)], args := [d1, d2, d3] }
  | _ => none }
def diskLastsRow : OpenClaim := { program := "ytgnkminakongkaa", sum := "8644074c292132c49df7b4bd5e47c161dd486f3214d41b634d7d7a3b9524efd8", func := "argosy/argosylaw03.DiskLasts", spec := "diskLasts", unfollowed := true, recurses := true, apart := false }
def DiskLastsSaid : Prop := diskLastsRow.holds Try.pinned (OpenSpec.ofChange diskLastsSpec)

/-- ITS FALSE NEIGHBOUR: 'it returns false'. Refute it at one input. -/
def diskLastsWrong : ChangeSpec := { name := "diskLasts", fn := fun _ => fun
  | [d1, d2, d3] => { results := [.lit (.bool false)], args := [d1, d2, d3] }
  | _ => none }
def DiskLastsWrongFalsely : Prop := diskLastsRow.holds Try.pinned (OpenSpec.ofChange diskLastsWrong)

/-- 'argosylaw03.DiskRoom': WHATEVER THE INPUT: true; the input reads as it did. -/
def diskRoomSpec : ChangeSpec := { name := "diskRoom", fn := fun _ => fun
  | [d1, d2] => { results := [.lit (.bool true)], args := [d1, d2] }
  | _ => none }
def diskRoomRow : OpenClaim := { program := "ytgnkminakongkaa", sum := "8644074c292132c49df7b4bd5e47c161dd486f3214d41b634d7d7a3b9524efd8", func := "argosy/argosylaw03.DiskRoom", spec := "diskRoom", unfollowed := true, recurses := true, apart := false }
def DiskRoomSaid : Prop := diskRoomRow.holds Try.pinned (OpenSpec.ofChange diskRoomSpec)

/-- ITS FALSE NEIGHBOUR: 'it returns false'. Refute it at one input. -/
def diskRoomWrong : ChangeSpec := { name := "diskRoom", fn := fun _ => fun
  | [d1, d2] => { results := [.lit (.bool false)], args := [d1, d2] }
  | _ => none }
def DiskRoomWrongFalsely : Prop := diskRoomRow.holds Try.pinned (OpenSpec.ofChange diskRoomWrong)

/-- 'argosylaw03.DiskApart': WHATEVER THE INPUT: true; the input reads as it did. -/
def diskApartSpec : ChangeSpec := { name := "diskApart", fn := fun _ => fun
  | [d1, d2] => { results := [.lit (.bool true)], args := [d1, d2] }
  | _ => none }
def diskApartRow : OpenClaim := { program := "ytgnkminakongkaa", sum := "8644074c292132c49df7b4bd5e47c161dd486f3214d41b634d7d7a3b9524efd8", func := "argosy/argosylaw03.DiskApart", spec := "diskApart", unfollowed := true, recurses := true, apart := false }
def DiskApartSaid : Prop := diskApartRow.holds Try.pinned (OpenSpec.ofChange diskApartSpec)

/-- ITS FALSE NEIGHBOUR: 'it returns false'. Refute it at one input. -/
def diskApartWrong : ChangeSpec := { name := "diskApart", fn := fun _ => fun
  | [d1, d2] => { results := [.lit (.bool false)], args := [d1, d2] }
  | _ => none }
def DiskApartWrongFalsely : Prop := diskApartRow.holds Try.pinned (OpenSpec.ofChange diskApartWrong)

/-- 'argosylaw03.DiskTwice': WHATEVER THE INPUT: true; the input reads as it did. -/
def diskTwiceSpec : ChangeSpec := { name := "diskTwice", fn := fun _ => fun
  | [d1, d2, d3] => { results := [.lit (.bool true)], args := [d1, d2, d3] }
  | _ => none }
def diskTwiceRow : OpenClaim := { program := "ytgnkminakongkaa", sum := "8644074c292132c49df7b4bd5e47c161dd486f3214d41b634d7d7a3b9524efd8", func := "argosy/argosylaw03.DiskTwice", spec := "diskTwice", unfollowed := true, recurses := true, apart := false }
def DiskTwiceSaid : Prop := diskTwiceRow.holds Try.pinned (OpenSpec.ofChange diskTwiceSpec)

/-- ITS FALSE NEIGHBOUR: 'it returns false'. Refute it at one input. -/
def diskTwiceWrong : ChangeSpec := { name := "diskTwice", fn := fun _ => fun
  | [d1, d2, d3] => { results := [.lit (.bool false)], args := [d1, d2, d3] }
  | _ => none }
def DiskTwiceWrongFalsely : Prop := diskTwiceRow.holds Try.pinned (OpenSpec.ofChange diskTwiceWrong)

/-- 'argosylaw03.DiskRenames': WHATEVER THE INPUT: true; the input reads as it did. -/
def diskRenamesSpec : ChangeSpec := { name := "diskRenames", fn := fun _ => fun
  | [d1, d2, d3] => { results := [.lit (.bool true)], args := [d1, d2, d3] }
  | _ => none }
def diskRenamesRow : OpenClaim := { program := "ytgnkminakongkaa", sum := "8644074c292132c49df7b4bd5e47c161dd486f3214d41b634d7d7a3b9524efd8", func := "argosy/argosylaw03.DiskRenames", spec := "diskRenames", unfollowed := true, recurses := true, apart := false }
def DiskRenamesSaid : Prop := diskRenamesRow.holds Try.pinned (OpenSpec.ofChange diskRenamesSpec)

/-- ITS FALSE NEIGHBOUR: 'it returns false'. Refute it at one input. -/
def diskRenamesWrong : ChangeSpec := { name := "diskRenames", fn := fun _ => fun
  | [d1, d2, d3] => { results := [.lit (.bool false)], args := [d1, d2, d3] }
  | _ => none }
def DiskRenamesWrongFalsely : Prop := diskRenamesRow.holds Try.pinned (OpenSpec.ofChange diskRenamesWrong)

/-- 'argosylaw03.DiskStops': WHATEVER THE INPUT: true; the input reads as it did. -/
def diskStopsSpec : ChangeSpec := { name := "diskStops", fn := fun _ => fun
  | [d1, d2] => { results := [.lit (.bool true)], args := [d1, d2] }
  | _ => none }
def diskStopsRow : OpenClaim := { program := "ytgnkminakongkaa", sum := "8644074c292132c49df7b4bd5e47c161dd486f3214d41b634d7d7a3b9524efd8", func := "argosy/argosylaw03.DiskStops", spec := "diskStops", unfollowed := true, recurses := true, apart := false }
def DiskStopsSaid : Prop := diskStopsRow.holds Try.pinned (OpenSpec.ofChange diskStopsSpec)

/-- ITS FALSE NEIGHBOUR: 'it returns false'. Refute it at one input. -/
def diskStopsWrong : ChangeSpec := { name := "diskStops", fn := fun _ => fun
  | [d1, d2] => { results := [.lit (.bool false)], args := [d1, d2] }
  | _ => none }
def DiskStopsWrongFalsely : Prop := diskStopsRow.holds Try.pinned (OpenSpec.ofChange diskStopsWrong)

/-- 'argosylaw03.DiskPlays': WHATEVER THE INPUT: true; the input reads as it did. -/
def diskPlaysSpec : ChangeSpec := { name := "diskPlays", fn := fun _ => fun
  | [d1, d2] => { results := [.lit (.bool true)], args := [d1, d2] }
  | _ => none }
def diskPlaysRow : OpenClaim := { program := "ytgnkminakongkaa", sum := "8644074c292132c49df7b4bd5e47c161dd486f3214d41b634d7d7a3b9524efd8", func := "argosy/argosylaw03.DiskPlays", spec := "diskPlays", unfollowed := true, recurses := true, apart := false }
def DiskPlaysSaid : Prop := diskPlaysRow.holds Try.pinned (OpenSpec.ofChange diskPlaysSpec)

/-- ITS FALSE NEIGHBOUR: 'it returns false'. Refute it at one input. -/
def diskPlaysWrong : ChangeSpec := { name := "diskPlays", fn := fun _ => fun
  | [d1, d2] => { results := [.lit (.bool false)], args := [d1, d2] }
  | _ => none }
def DiskPlaysWrongFalsely : Prop := diskPlaysRow.holds Try.pinned (OpenSpec.ofChange diskPlaysWrong)

/-- 'argosylaw08.SnapBeside': WHATEVER THE INPUT: true; the input reads as it did. -/
def snapBesideSpec : ChangeSpec := { name := "snapBeside", fn := fun _ => fun
  | [d1, d2] => { results := [.lit (.bool true)], args := [d1, d2] }
  | _ => none }
def snapBesideRow : OpenClaim := { program := "ytgnkminakongkaa", sum := "8644074c292132c49df7b4bd5e47c161dd486f3214d41b634d7d7a3b9524efd8", func := "argosy/argosylaw08.SnapBeside", spec := "snapBeside", unfollowed := true, recurses := true, apart := false }
def SnapBesideSaid : Prop := snapBesideRow.holds Try.pinned (OpenSpec.ofChange snapBesideSpec)

/-- ITS FALSE NEIGHBOUR: 'it returns false'. Refute it at one input. -/
def snapBesideWrong : ChangeSpec := { name := "snapBeside", fn := fun _ => fun
  | [d1, d2] => { results := [.lit (.bool false)], args := [d1, d2] }
  | _ => none }
def SnapBesideWrongFalsely : Prop := snapBesideRow.holds Try.pinned (OpenSpec.ofChange snapBesideWrong)

/-- 'argosylaw08.SnapPlays': WHATEVER THE INPUT: true; the input reads as it did. -/
def snapPlaysSpec : ChangeSpec := { name := "snapPlays", fn := fun _ => fun
  | [d1, d2] => { results := [.lit (.bool true)], args := [d1, d2] }
  | _ => none }
def snapPlaysRow : OpenClaim := { program := "ytgnkminakongkaa", sum := "8644074c292132c49df7b4bd5e47c161dd486f3214d41b634d7d7a3b9524efd8", func := "argosy/argosylaw08.SnapPlays", spec := "snapPlays", unfollowed := true, recurses := true, apart := false }
def SnapPlaysSaid : Prop := snapPlaysRow.holds Try.pinned (OpenSpec.ofChange snapPlaysSpec)

/-- ITS FALSE NEIGHBOUR: 'it returns false'. Refute it at one input. -/
def snapPlaysWrong : ChangeSpec := { name := "snapPlays", fn := fun _ => fun
  | [d1, d2] => { results := [.lit (.bool false)], args := [d1, d2] }
  | _ => none }
def SnapPlaysWrongFalsely : Prop := snapPlaysRow.holds Try.pinned (OpenSpec.ofChange snapPlaysWrong)

/-- 'argosylaw08.SnapAtomic': WHATEVER THE INPUT: true; the input reads as it did. -/
def snapAtomicSpec : ChangeSpec := { name := "snapAtomic", fn := fun _ => fun
  | [d1, d2, d3] => { results := [.lit (.bool true)], args := [d1, d2, d3] }
  | _ => none }
def snapAtomicRow : OpenClaim := { program := "ytgnkminakongkaa", sum := "8644074c292132c49df7b4bd5e47c161dd486f3214d41b634d7d7a3b9524efd8", func := "argosy/argosylaw08.SnapAtomic", spec := "snapAtomic", unfollowed := true, recurses := true, apart := false }
def SnapAtomicSaid : Prop := snapAtomicRow.holds Try.pinned (OpenSpec.ofChange snapAtomicSpec)

/-- ITS FALSE NEIGHBOUR: 'it returns false'. Refute it at one input. -/
def snapAtomicWrong : ChangeSpec := { name := "snapAtomic", fn := fun _ => fun
  | [d1, d2, d3] => { results := [.lit (.bool false)], args := [d1, d2, d3] }
  | _ => none }
def SnapAtomicWrongFalsely : Prop := snapAtomicRow.holds Try.pinned (OpenSpec.ofChange snapAtomicWrong)

/- THE SECOND FORM. 'bulk': how many values and letters a reading holds, each counted each time it is reached (what is shared counts as often as it is met; a slice's spare places count too). A statement '..UptoSaid' is the law's where the arguments, and the package variables that the reading takes, are together of bulk at most 1048576: NARROWER than '..Said'. Prove '..Said' where nothing that the law and all that it calls make is longer than what came in: it says more and counts as full. Else prove '..UptoSaid'. A law counts once. -/
mutual
def uptoBulk {H : Type} : DataW H → Nat
  | .lit (.string bytes) => bytes.length + 1
  | .lit _ => 1
  | .nil => 1
  | .ptr d => uptoBulk d + 1
  | .slice elems spare => uptoBulkAll elems + uptoBulkAll spare + 1
  | .agg parts => uptoBulkAll parts + 1
  | .iface _ d => uptoBulk d + 1
  | .map entries => uptoBulkEntries entries + 1
  | .held _ => 1
def uptoBulkAll {H : Type} : List (DataW H) → Nat
  | [] => 0
  | d :: r => uptoBulk d + uptoBulkAll r
def uptoBulkEntries {H : Type} : List (Lit × DataW H) → Nat
  | [] => 0
  | x :: r => uptoBulkEntry x + uptoBulkEntries r
def uptoBulkEntry {H : Type} : Lit × DataW H → Nat
  | (.string bytes, d) => bytes.length + uptoBulk d + 1
  | (_, d) => uptoBulk d + 1
 end
def uptoSmall : (H : Type) → List (DataW H) → Bool := fun _ ds => decide (uptoBulkAll ds ≤ 1048576)
def OpenSpec.upto (s : _root_.Go.ChangeSpec) : _root_.Go.OpenSpec := { _root_.Go.OpenSpec.ofChange s with cond := some uptoSmall }

/-- 'argosylaw10.RouteOnce', WHERE WHAT IT READS IS OF BULK AT MOST 1048576: true; the input reads as it did. -/
def routeOnceUptoRow : OpenClaim := { program := "ytgnkminakongkaa", sum := "8644074c292132c49df7b4bd5e47c161dd486f3214d41b634d7d7a3b9524efd8", func := "argosy/argosylaw10.RouteOnce", spec := "routeOnce", inPlace := ["slices.overlaps[argosy/btree.item[string, argosy/api.Record]]", "slices.overlaps[*argosy/btree.node[string, argosy/api.Record]]"], unfollowed := true, recurses := true, apart := false, narrowed := true }
def RouteOnceUptoSaid : Prop := routeOnceUptoRow.holds Try.pinned (OpenSpec.upto routeOnceSpec)

/-- 'argosylaw03.DiskLasts', WHERE WHAT IT READS IS OF BULK AT MOST 1048576: true; the input reads as it did. -/
def diskLastsUptoRow : OpenClaim := { program := "ytgnkminakongkaa", sum := "8644074c292132c49df7b4bd5e47c161dd486f3214d41b634d7d7a3b9524efd8", func := "argosy/argosylaw03.DiskLasts", spec := "diskLasts", unfollowed := true, recurses := true, apart := false, narrowed := true }
def DiskLastsUptoSaid : Prop := diskLastsUptoRow.holds Try.pinned (OpenSpec.upto diskLastsSpec)

/-- 'argosylaw03.DiskRoom', WHERE WHAT IT READS IS OF BULK AT MOST 1048576: true; the input reads as it did. -/
def diskRoomUptoRow : OpenClaim := { program := "ytgnkminakongkaa", sum := "8644074c292132c49df7b4bd5e47c161dd486f3214d41b634d7d7a3b9524efd8", func := "argosy/argosylaw03.DiskRoom", spec := "diskRoom", unfollowed := true, recurses := true, apart := false, narrowed := true }
def DiskRoomUptoSaid : Prop := diskRoomUptoRow.holds Try.pinned (OpenSpec.upto diskRoomSpec)

/-- 'argosylaw03.DiskApart', WHERE WHAT IT READS IS OF BULK AT MOST 1048576: true; the input reads as it did. -/
def diskApartUptoRow : OpenClaim := { program := "ytgnkminakongkaa", sum := "8644074c292132c49df7b4bd5e47c161dd486f3214d41b634d7d7a3b9524efd8", func := "argosy/argosylaw03.DiskApart", spec := "diskApart", unfollowed := true, recurses := true, apart := false, narrowed := true }
def DiskApartUptoSaid : Prop := diskApartUptoRow.holds Try.pinned (OpenSpec.upto diskApartSpec)

/-- 'argosylaw03.DiskTwice', WHERE WHAT IT READS IS OF BULK AT MOST 1048576: true; the input reads as it did. -/
def diskTwiceUptoRow : OpenClaim := { program := "ytgnkminakongkaa", sum := "8644074c292132c49df7b4bd5e47c161dd486f3214d41b634d7d7a3b9524efd8", func := "argosy/argosylaw03.DiskTwice", spec := "diskTwice", unfollowed := true, recurses := true, apart := false, narrowed := true }
def DiskTwiceUptoSaid : Prop := diskTwiceUptoRow.holds Try.pinned (OpenSpec.upto diskTwiceSpec)

/-- 'argosylaw03.DiskRenames', WHERE WHAT IT READS IS OF BULK AT MOST 1048576: true; the input reads as it did. -/
def diskRenamesUptoRow : OpenClaim := { program := "ytgnkminakongkaa", sum := "8644074c292132c49df7b4bd5e47c161dd486f3214d41b634d7d7a3b9524efd8", func := "argosy/argosylaw03.DiskRenames", spec := "diskRenames", unfollowed := true, recurses := true, apart := false, narrowed := true }
def DiskRenamesUptoSaid : Prop := diskRenamesUptoRow.holds Try.pinned (OpenSpec.upto diskRenamesSpec)

/-- 'argosylaw03.DiskStops', WHERE WHAT IT READS IS OF BULK AT MOST 1048576: true; the input reads as it did. -/
def diskStopsUptoRow : OpenClaim := { program := "ytgnkminakongkaa", sum := "8644074c292132c49df7b4bd5e47c161dd486f3214d41b634d7d7a3b9524efd8", func := "argosy/argosylaw03.DiskStops", spec := "diskStops", unfollowed := true, recurses := true, apart := false, narrowed := true }
def DiskStopsUptoSaid : Prop := diskStopsUptoRow.holds Try.pinned (OpenSpec.upto diskStopsSpec)

/-- 'argosylaw03.DiskPlays', WHERE WHAT IT READS IS OF BULK AT MOST 1048576: true; the input reads as it did. -/
def diskPlaysUptoRow : OpenClaim := { program := "ytgnkminakongkaa", sum := "8644074c292132c49df7b4bd5e47c161dd486f3214d41b634d7d7a3b9524efd8", func := "argosy/argosylaw03.DiskPlays", spec := "diskPlays", unfollowed := true, recurses := true, apart := false, narrowed := true }
def DiskPlaysUptoSaid : Prop := diskPlaysUptoRow.holds Try.pinned (OpenSpec.upto diskPlaysSpec)

/-- 'argosylaw08.SnapBeside', WHERE WHAT IT READS IS OF BULK AT MOST 1048576: true; the input reads as it did. -/
def snapBesideUptoRow : OpenClaim := { program := "ytgnkminakongkaa", sum := "8644074c292132c49df7b4bd5e47c161dd486f3214d41b634d7d7a3b9524efd8", func := "argosy/argosylaw08.SnapBeside", spec := "snapBeside", unfollowed := true, recurses := true, apart := false, narrowed := true }
def SnapBesideUptoSaid : Prop := snapBesideUptoRow.holds Try.pinned (OpenSpec.upto snapBesideSpec)

/-- 'argosylaw08.SnapPlays', WHERE WHAT IT READS IS OF BULK AT MOST 1048576: true; the input reads as it did. -/
def snapPlaysUptoRow : OpenClaim := { program := "ytgnkminakongkaa", sum := "8644074c292132c49df7b4bd5e47c161dd486f3214d41b634d7d7a3b9524efd8", func := "argosy/argosylaw08.SnapPlays", spec := "snapPlays", unfollowed := true, recurses := true, apart := false, narrowed := true }
def SnapPlaysUptoSaid : Prop := snapPlaysUptoRow.holds Try.pinned (OpenSpec.upto snapPlaysSpec)

/-- 'argosylaw08.SnapAtomic', WHERE WHAT IT READS IS OF BULK AT MOST 1048576: true; the input reads as it did. -/
def snapAtomicUptoRow : OpenClaim := { program := "ytgnkminakongkaa", sum := "8644074c292132c49df7b4bd5e47c161dd486f3214d41b634d7d7a3b9524efd8", func := "argosy/argosylaw08.SnapAtomic", spec := "snapAtomic", unfollowed := true, recurses := true, apart := false, narrowed := true }
def SnapAtomicUptoSaid : Prop := snapAtomicUptoRow.holds Try.pinned (OpenSpec.upto snapAtomicSpec)

end Rows
end Go.Proofs.Ytgnkminakongkaa
