/-
  No cell of these rows narrows 'for every input' (looked for: loops, veiled, ifaces, maps, wideKeys, modest, calm, conditions, laid).
  DERIVED. THE GIVEN ROWS OF THIS SEAT. 4 by the template 'for every input the law returns true; each argument reads behind the call as it read before'; 0 by the template 'total and deterministic' (their statements: YtlelhlcjaapkoaaGreatTotals.lean).
  GIVEN WITH THE SEED: the statements are not yours to turn. If you find one false, say at which input.
  Laid BY PROGRAM, IN A SANDBOX (cutbox-rows.mjs): the forced cells as the released guide's own fill.sh prints them over the translation 6dd4496da175ad65… (all of the seat's roots in one cut). By AI agents, Wed Nov 11 2026. No macro, syntax, notation, axiom, sorry.
-/
import Derived.Test.YtlelhlcjaapkoaaGreatChecked
import GoSem.Claim
import GoSem.ClaimJoined
import GoSem.ClaimMapViews
import Derived.JoinedTies
import Derived.KernelRfl
namespace Go.Proofs.YtlelhlcjaapkoaaGreat
/- THE CELL 'sum', in the pinned program and in every row, IS THE sha256 OF THE DUMP (.gsa) THAT YtlelhlcjaapkoaaGreatProg.lean LOADS. Nothing in Lean hashes anything: it is a label: what it is worth is what the hold of that sum in a sandbox is worth. -/
noncomputable def Tryz.pinned : Pinned := { name := "ytlelhlcjaapkoaagreat", sum := "6dd4496da175ad650f0e2d472f24fdaae52a774e1f46bae83218bf1c5a176c9b", checked := Tryz.checked }
namespace Rows
def none {H : Type} : Left H := { results := [], args := [] }

/-- 'argosylaw21.FrontPlays': WHATEVER THE INPUT: true; the input reads as it did. -/
def frontPlaysSpec : ChangeSpec := { name := "frontPlays", fn := fun _ => fun
  | [d1, d2] => { results := [.lit (.bool true)], args := [d1, d2] }
  | _ => none }
def frontPlaysRow : OpenClaim := { program := "ytlelhlcjaapkoaagreat", sum := "6dd4496da175ad650f0e2d472f24fdaae52a774e1f46bae83218bf1c5a176c9b", func := "argosy/argosylaw21.FrontPlays", spec := "frontPlays", inPlace := ["slices.overlaps[argosy/btree.item[string, argosy/api.Record]]", "slices.overlaps[*argosy/btree.node[string, argosy/api.Record]]"], unfollowed := true, recurses := true, plainKeys := false, apart := false }
def FrontPlaysSaid : Prop := frontPlaysRow.holds Tryz.pinned (OpenSpec.ofChange frontPlaysSpec)

/-- ITS FALSE NEIGHBOUR: 'it returns false'. Refute it at one input. -/
def frontPlaysWrong : ChangeSpec := { name := "frontPlays", fn := fun _ => fun
  | [d1, d2] => { results := [.lit (.bool false)], args := [d1, d2] }
  | _ => none }
def FrontPlaysWrongFalsely : Prop := frontPlaysRow.holds Tryz.pinned (OpenSpec.ofChange frontPlaysWrong)

/-- 'argosylaw17.SchedPlays': WHATEVER THE INPUT: true; the input reads as it did. -/
def schedPlaysSpec : ChangeSpec := { name := "schedPlays", fn := fun _ => fun
  | [d1, d2] => { results := [.lit (.bool true)], args := [d1, d2] }
  | _ => none }
def schedPlaysRow : OpenClaim := { program := "ytlelhlcjaapkoaagreat", sum := "6dd4496da175ad650f0e2d472f24fdaae52a774e1f46bae83218bf1c5a176c9b", func := "argosy/argosylaw17.SchedPlays", spec := "schedPlays", inPlace := ["slices.overlaps[argosy/btree.item[string, argosy/api.Record]]", "slices.overlaps[*argosy/btree.node[string, argosy/api.Record]]"], unfollowed := true, recurses := true, plainKeys := false, apart := false }
def SchedPlaysSaid : Prop := schedPlaysRow.holds Tryz.pinned (OpenSpec.ofChange schedPlaysSpec)

/-- ITS FALSE NEIGHBOUR: 'it returns false'. Refute it at one input. -/
def schedPlaysWrong : ChangeSpec := { name := "schedPlays", fn := fun _ => fun
  | [d1, d2] => { results := [.lit (.bool false)], args := [d1, d2] }
  | _ => none }
def SchedPlaysWrongFalsely : Prop := schedPlaysRow.holds Tryz.pinned (OpenSpec.ofChange schedPlaysWrong)

/-- 'argosylaw17.SchedRestores': WHATEVER THE INPUT: true; the input reads as it did. -/
def schedRestoresSpec : ChangeSpec := { name := "schedRestores", fn := fun _ => fun
  | [d1, d2, d3] => { results := [.lit (.bool true)], args := [d1, d2, d3] }
  | _ => none }
def schedRestoresRow : OpenClaim := { program := "ytlelhlcjaapkoaagreat", sum := "6dd4496da175ad650f0e2d472f24fdaae52a774e1f46bae83218bf1c5a176c9b", func := "argosy/argosylaw17.SchedRestores", spec := "schedRestores", inPlace := ["slices.overlaps[argosy/btree.item[string, argosy/api.Record]]", "slices.overlaps[*argosy/btree.node[string, argosy/api.Record]]"], unfollowed := true, recurses := true, plainKeys := false, apart := false }
def SchedRestoresSaid : Prop := schedRestoresRow.holds Tryz.pinned (OpenSpec.ofChange schedRestoresSpec)

/-- ITS FALSE NEIGHBOUR: 'it returns false'. Refute it at one input. -/
def schedRestoresWrong : ChangeSpec := { name := "schedRestores", fn := fun _ => fun
  | [d1, d2, d3] => { results := [.lit (.bool false)], args := [d1, d2, d3] }
  | _ => none }
def SchedRestoresWrongFalsely : Prop := schedRestoresRow.holds Tryz.pinned (OpenSpec.ofChange schedRestoresWrong)

/-- 'argosylaw17.SchedGoesOn': WHATEVER THE INPUT: true; the input reads as it did. -/
def schedGoesOnSpec : ChangeSpec := { name := "schedGoesOn", fn := fun _ => fun
  | [d1, d2, d3] => { results := [.lit (.bool true)], args := [d1, d2, d3] }
  | _ => none }
def schedGoesOnRow : OpenClaim := { program := "ytlelhlcjaapkoaagreat", sum := "6dd4496da175ad650f0e2d472f24fdaae52a774e1f46bae83218bf1c5a176c9b", func := "argosy/argosylaw17.SchedGoesOn", spec := "schedGoesOn", inPlace := ["slices.overlaps[argosy/btree.item[string, argosy/api.Record]]", "slices.overlaps[*argosy/btree.node[string, argosy/api.Record]]"], unfollowed := true, recurses := true, plainKeys := false, apart := false }
def SchedGoesOnSaid : Prop := schedGoesOnRow.holds Tryz.pinned (OpenSpec.ofChange schedGoesOnSpec)

/-- ITS FALSE NEIGHBOUR: 'it returns false'. Refute it at one input. -/
def schedGoesOnWrong : ChangeSpec := { name := "schedGoesOn", fn := fun _ => fun
  | [d1, d2, d3] => { results := [.lit (.bool false)], args := [d1, d2, d3] }
  | _ => none }
def SchedGoesOnWrongFalsely : Prop := schedGoesOnRow.holds Tryz.pinned (OpenSpec.ofChange schedGoesOnWrong)

/- THE SECOND FORM. 'bulk': how many values and letters a reading holds, each counted each time it is reached (what is shared counts as often as it is met; a slice's spare places count too). A statement '..UptoSaid' is the law's where the arguments, and the package variables that the reading takes, are together of bulk at most 1048576: NARROWER than '..Said'. Prove '..Said' where nothing that the law and all that it calls make is longer than what came in: it says more and counts as full. Else prove '..UptoSaid'. A law counts once. -/
mutual
def uptoBulk {H : Type} : DataW H → Nat
  | .lit (.string bytes) => bytes.length + 1
  | .lit _ => 1
  | .nil => 1
  | .ptr d => uptoBulk d + 1
  | .slice elems spare => uptoBulkAll elems + uptoBulkAll spare + 1
  | .agg parts => uptoBulkAll parts + 1
  | .iface _ d => uptoBulk d + 1
  | .map entries => uptoBulkEntries entries + 1
  | .held _ => 1
def uptoBulkAll {H : Type} : List (DataW H) → Nat
  | [] => 0
  | d :: r => uptoBulk d + uptoBulkAll r
def uptoBulkEntries {H : Type} : List (Lit × DataW H) → Nat
  | [] => 0
  | x :: r => uptoBulkEntry x + uptoBulkEntries r
def uptoBulkEntry {H : Type} : Lit × DataW H → Nat
  | (.string bytes, d) => bytes.length + uptoBulk d + 1
  | (_, d) => uptoBulk d + 1
 end
def uptoSmall : (H : Type) → List (DataW H) → Bool := fun _ ds => decide (uptoBulkAll ds ≤ 1048576)
def OpenSpec.upto (s : _root_.Go.ChangeSpec) : _root_.Go.OpenSpec := { _root_.Go.OpenSpec.ofChange s with cond := some uptoSmall }

/-- 'argosylaw21.FrontPlays', WHERE WHAT IT READS IS OF BULK AT MOST 1048576: true; the input reads as it did. -/
def frontPlaysUptoRow : OpenClaim := { program := "ytlelhlcjaapkoaagreat", sum := "6dd4496da175ad650f0e2d472f24fdaae52a774e1f46bae83218bf1c5a176c9b", func := "argosy/argosylaw21.FrontPlays", spec := "frontPlays", inPlace := ["slices.overlaps[argosy/btree.item[string, argosy/api.Record]]", "slices.overlaps[*argosy/btree.node[string, argosy/api.Record]]"], unfollowed := true, recurses := true, plainKeys := false, apart := false, narrowed := true }
def FrontPlaysUptoSaid : Prop := frontPlaysUptoRow.holds Tryz.pinned (OpenSpec.upto frontPlaysSpec)

/-- 'argosylaw17.SchedPlays', WHERE WHAT IT READS IS OF BULK AT MOST 1048576: true; the input reads as it did. -/
def schedPlaysUptoRow : OpenClaim := { program := "ytlelhlcjaapkoaagreat", sum := "6dd4496da175ad650f0e2d472f24fdaae52a774e1f46bae83218bf1c5a176c9b", func := "argosy/argosylaw17.SchedPlays", spec := "schedPlays", inPlace := ["slices.overlaps[argosy/btree.item[string, argosy/api.Record]]", "slices.overlaps[*argosy/btree.node[string, argosy/api.Record]]"], unfollowed := true, recurses := true, plainKeys := false, apart := false, narrowed := true }
def SchedPlaysUptoSaid : Prop := schedPlaysUptoRow.holds Tryz.pinned (OpenSpec.upto schedPlaysSpec)

/-- 'argosylaw17.SchedRestores', WHERE WHAT IT READS IS OF BULK AT MOST 1048576: true; the input reads as it did. -/
def schedRestoresUptoRow : OpenClaim := { program := "ytlelhlcjaapkoaagreat", sum := "6dd4496da175ad650f0e2d472f24fdaae52a774e1f46bae83218bf1c5a176c9b", func := "argosy/argosylaw17.SchedRestores", spec := "schedRestores", inPlace := ["slices.overlaps[argosy/btree.item[string, argosy/api.Record]]", "slices.overlaps[*argosy/btree.node[string, argosy/api.Record]]"], unfollowed := true, recurses := true, plainKeys := false, apart := false, narrowed := true }
def SchedRestoresUptoSaid : Prop := schedRestoresUptoRow.holds Tryz.pinned (OpenSpec.upto schedRestoresSpec)

/-- 'argosylaw17.SchedGoesOn', WHERE WHAT IT READS IS OF BULK AT MOST 1048576: true; the input reads as it did. -/
def schedGoesOnUptoRow : OpenClaim := { program := "ytlelhlcjaapkoaagreat", sum := "6dd4496da175ad650f0e2d472f24fdaae52a774e1f46bae83218bf1c5a176c9b", func := "argosy/argosylaw17.SchedGoesOn", spec := "schedGoesOn", inPlace := ["slices.overlaps[argosy/btree.item[string, argosy/api.Record]]", "slices.overlaps[*argosy/btree.node[string, argosy/api.Record]]"], unfollowed := true, recurses := true, plainKeys := false, apart := false, narrowed := true }
def SchedGoesOnUptoSaid : Prop := schedGoesOnUptoRow.holds Tryz.pinned (OpenSpec.upto schedGoesOnSpec)

end Rows
end Go.Proofs.YtlelhlcjaapkoaaGreat
