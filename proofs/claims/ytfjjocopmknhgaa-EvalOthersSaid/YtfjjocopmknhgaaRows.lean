/-
  No cell of these rows narrows 'for every input' (looked for: loops, veiled, ifaces, maps, wideKeys, modest, calm, conditions, laid).
  DERIVED. THE GIVEN ROWS OF THIS SEAT. 8 by the template 'for every input the law returns true; each argument reads behind the call as it read before'; 0 by the template 'total and deterministic' (their statements: YtfjjocopmknhgaaTotals.lean).
  GIVEN WITH THE SEED: the statements are not yours to turn. If you find one false, say at which input.
  Laid BY PROGRAM, IN A SANDBOX (cutbox-rows.mjs): the forced cells as the released guide's own fill.sh prints them over the translation d0b7a505b63c799e… (all of the seat's roots in one cut). By AI agents, Wed Nov 11 2026. No macro, syntax, notation, axiom, sorry.
-/
import Derived.Test.YtfjjocopmknhgaaChecked
import GoSem.Claim
import GoSem.ClaimJoined
import GoSem.ClaimMapViews
import Derived.JoinedTies
import Derived.KernelRfl
namespace Go.Proofs.Ytfjjocopmknhgaa
/- THE CELL 'sum', in the pinned program and in every row, IS THE sha256 OF THE DUMP (.gsa) THAT YtfjjocopmknhgaaProg.lean LOADS. Nothing in Lean hashes anything: it is a label: what it is worth is what the hold of that sum in a sandbox is worth. -/
noncomputable def Try.pinned : Pinned := { name := "ytfjjocopmknhgaa", sum := "d0b7a505b63c799ed3974023d603e6dcc13de6f629a02ebfbb84de7f126b09f0", checked := Try.checked }
namespace Rows
def none {H : Type} : Left H := { results := [], args := [] }

/-- 'argosylaw10.RouteOnce': WHATEVER THE INPUT: true; the input reads as it did. -/
def routeOnceSpec : ChangeSpec := { name := "routeOnce", fn := fun _ => fun
  | [d1, d2] => { results := [.lit (.bool true)], args := [d1, d2] }
  | _ => none }
def routeOnceRow : OpenClaim := { program := "ytfjjocopmknhgaa", sum := "d0b7a505b63c799ed3974023d603e6dcc13de6f629a02ebfbb84de7f126b09f0", func := "argosy/argosylaw10.RouteOnce", spec := "routeOnce", inPlace := ["slices.overlaps[argosy/btree.item[string, argosy/api.Record]]", "slices.overlaps[*argosy/btree.node[string, argosy/api.Record]]"], unfollowed := true, recurses := true, plainKeys := false, apart := false }
def RouteOnceSaid : Prop := routeOnceRow.holds Try.pinned (OpenSpec.ofChange routeOnceSpec)

/-- ITS FALSE NEIGHBOUR: 'it returns false'. Refute it at one input. -/
def routeOnceWrong : ChangeSpec := { name := "routeOnce", fn := fun _ => fun
  | [d1, d2] => { results := [.lit (.bool false)], args := [d1, d2] }
  | _ => none }
def RouteOnceWrongFalsely : Prop := routeOnceRow.holds Try.pinned (OpenSpec.ofChange routeOnceWrong)

/-- 'argosylaw07.EvalNumbers': WHATEVER THE INPUT: true; the input reads as it did. -/
def evalNumbersSpec : ChangeSpec := { name := "evalNumbers", fn := fun _ => fun
  | [d1, d2] => { results := [.lit (.bool true)], args := [d1, d2] }
  | _ => none }
def evalNumbersRow : OpenClaim := { program := "ytfjjocopmknhgaa", sum := "d0b7a505b63c799ed3974023d603e6dcc13de6f629a02ebfbb84de7f126b09f0", func := "argosy/argosylaw07.EvalNumbers", spec := "evalNumbers", unfollowed := true, recurses := true, plainKeys := false, apart := false }
def EvalNumbersSaid : Prop := evalNumbersRow.holds Try.pinned (OpenSpec.ofChange evalNumbersSpec)

/-- ITS FALSE NEIGHBOUR: 'it returns false'. Refute it at one input. -/
def evalNumbersWrong : ChangeSpec := { name := "evalNumbers", fn := fun _ => fun
  | [d1, d2] => { results := [.lit (.bool false)], args := [d1, d2] }
  | _ => none }
def EvalNumbersWrongFalsely : Prop := evalNumbersRow.holds Try.pinned (OpenSpec.ofChange evalNumbersWrong)

/-- 'argosylaw10.RouteMakes': WHATEVER THE INPUT: true; the input reads as it did. -/
def routeMakesSpec : ChangeSpec := { name := "routeMakes", fn := fun _ => fun
  | [d1, d2, d3] => { results := [.lit (.bool true)], args := [d1, d2, d3] }
  | _ => none }
def routeMakesRow : OpenClaim := { program := "ytfjjocopmknhgaa", sum := "d0b7a505b63c799ed3974023d603e6dcc13de6f629a02ebfbb84de7f126b09f0", func := "argosy/argosylaw10.RouteMakes", spec := "routeMakes", inPlace := ["slices.overlaps[argosy/btree.item[string, argosy/api.Record]]", "slices.overlaps[*argosy/btree.node[string, argosy/api.Record]]"], unfollowed := true, recurses := true, plainKeys := false, apart := false }
def RouteMakesSaid : Prop := routeMakesRow.holds Try.pinned (OpenSpec.ofChange routeMakesSpec)

/-- ITS FALSE NEIGHBOUR: 'it returns false'. Refute it at one input. -/
def routeMakesWrong : ChangeSpec := { name := "routeMakes", fn := fun _ => fun
  | [d1, d2, d3] => { results := [.lit (.bool false)], args := [d1, d2, d3] }
  | _ => none }
def RouteMakesWrongFalsely : Prop := routeMakesRow.holds Try.pinned (OpenSpec.ofChange routeMakesWrong)

/-- 'argosylaw07.EvalAtomic': WHATEVER THE INPUT: true; the input reads as it did. -/
def evalAtomicSpec : ChangeSpec := { name := "evalAtomic", fn := fun _ => fun
  | [d1, d2] => { results := [.lit (.bool true)], args := [d1, d2] }
  | _ => none }
def evalAtomicRow : OpenClaim := { program := "ytfjjocopmknhgaa", sum := "d0b7a505b63c799ed3974023d603e6dcc13de6f629a02ebfbb84de7f126b09f0", func := "argosy/argosylaw07.EvalAtomic", spec := "evalAtomic", inPlace := ["slices.overlaps[argosy/btree.item[string, argosy/api.Record]]", "slices.overlaps[*argosy/btree.node[string, argosy/api.Record]]"], unfollowed := true, recurses := true, plainKeys := false, apart := false }
def EvalAtomicSaid : Prop := evalAtomicRow.holds Try.pinned (OpenSpec.ofChange evalAtomicSpec)

/-- ITS FALSE NEIGHBOUR: 'it returns false'. Refute it at one input. -/
def evalAtomicWrong : ChangeSpec := { name := "evalAtomic", fn := fun _ => fun
  | [d1, d2] => { results := [.lit (.bool false)], args := [d1, d2] }
  | _ => none }
def EvalAtomicWrongFalsely : Prop := evalAtomicRow.holds Try.pinned (OpenSpec.ofChange evalAtomicWrong)

/-- 'argosylaw07.EvalOthers': WHATEVER THE INPUT: true; the input reads as it did. -/
def evalOthersSpec : ChangeSpec := { name := "evalOthers", fn := fun _ => fun
  | [d1, d2, d3] => { results := [.lit (.bool true)], args := [d1, d2, d3] }
  | _ => none }
def evalOthersRow : OpenClaim := { program := "ytfjjocopmknhgaa", sum := "d0b7a505b63c799ed3974023d603e6dcc13de6f629a02ebfbb84de7f126b09f0", func := "argosy/argosylaw07.EvalOthers", spec := "evalOthers", inPlace := ["slices.overlaps[argosy/btree.item[string, argosy/api.Record]]", "slices.overlaps[*argosy/btree.node[string, argosy/api.Record]]"], unfollowed := true, recurses := true, plainKeys := false, apart := false }
def EvalOthersSaid : Prop := evalOthersRow.holds Try.pinned (OpenSpec.ofChange evalOthersSpec)

/-- ITS FALSE NEIGHBOUR: 'it returns false'. Refute it at one input. -/
def evalOthersWrong : ChangeSpec := { name := "evalOthers", fn := fun _ => fun
  | [d1, d2, d3] => { results := [.lit (.bool false)], args := [d1, d2, d3] }
  | _ => none }
def EvalOthersWrongFalsely : Prop := evalOthersRow.holds Try.pinned (OpenSpec.ofChange evalOthersWrong)

/-- 'argosylaw07.EvalUndone': WHATEVER THE INPUT: true; the input reads as it did. -/
def evalUndoneSpec : ChangeSpec := { name := "evalUndone", fn := fun _ => fun
  | [d1, d2] => { results := [.lit (.bool true)], args := [d1, d2] }
  | _ => none }
def evalUndoneRow : OpenClaim := { program := "ytfjjocopmknhgaa", sum := "d0b7a505b63c799ed3974023d603e6dcc13de6f629a02ebfbb84de7f126b09f0", func := "argosy/argosylaw07.EvalUndone", spec := "evalUndone", inPlace := ["slices.overlaps[argosy/btree.item[string, argosy/api.Record]]", "slices.overlaps[*argosy/btree.node[string, argosy/api.Record]]"], unfollowed := true, recurses := true, plainKeys := false, apart := false }
def EvalUndoneSaid : Prop := evalUndoneRow.holds Try.pinned (OpenSpec.ofChange evalUndoneSpec)

/-- ITS FALSE NEIGHBOUR: 'it returns false'. Refute it at one input. -/
def evalUndoneWrong : ChangeSpec := { name := "evalUndone", fn := fun _ => fun
  | [d1, d2] => { results := [.lit (.bool false)], args := [d1, d2] }
  | _ => none }
def EvalUndoneWrongFalsely : Prop := evalUndoneRow.holds Try.pinned (OpenSpec.ofChange evalUndoneWrong)

/-- 'argosylaw16.LocksOrdered': WHATEVER THE INPUT: true; the input reads as it did. -/
def locksOrderedSpec : ChangeSpec := { name := "locksOrdered", fn := fun _ => fun
  | [d1, d2] => { results := [.lit (.bool true)], args := [d1, d2] }
  | _ => none }
def locksOrderedRow : OpenClaim := { program := "ytfjjocopmknhgaa", sum := "d0b7a505b63c799ed3974023d603e6dcc13de6f629a02ebfbb84de7f126b09f0", func := "argosy/argosylaw16.LocksOrdered", spec := "locksOrdered", unfollowed := true, recurses := true, plainKeys := false, apart := false }
def LocksOrderedSaid : Prop := locksOrderedRow.holds Try.pinned (OpenSpec.ofChange locksOrderedSpec)

/-- ITS FALSE NEIGHBOUR: 'it returns false'. Refute it at one input. -/
def locksOrderedWrong : ChangeSpec := { name := "locksOrdered", fn := fun _ => fun
  | [d1, d2] => { results := [.lit (.bool false)], args := [d1, d2] }
  | _ => none }
def LocksOrderedWrongFalsely : Prop := locksOrderedRow.holds Try.pinned (OpenSpec.ofChange locksOrderedWrong)

/-- 'argosylaw16.LocksParked': WHATEVER THE INPUT: true; the input reads as it did. -/
def locksParkedSpec : ChangeSpec := { name := "locksParked", fn := fun _ => fun
  | [d1, d2] => { results := [.lit (.bool true)], args := [d1, d2] }
  | _ => none }
def locksParkedRow : OpenClaim := { program := "ytfjjocopmknhgaa", sum := "d0b7a505b63c799ed3974023d603e6dcc13de6f629a02ebfbb84de7f126b09f0", func := "argosy/argosylaw16.LocksParked", spec := "locksParked", inPlace := ["slices.overlaps[argosy/btree.item[string, argosy/api.Record]]", "slices.overlaps[*argosy/btree.node[string, argosy/api.Record]]"], unfollowed := true, recurses := true, plainKeys := false, apart := false }
def LocksParkedSaid : Prop := locksParkedRow.holds Try.pinned (OpenSpec.ofChange locksParkedSpec)

/-- ITS FALSE NEIGHBOUR: 'it returns false'. Refute it at one input. -/
def locksParkedWrong : ChangeSpec := { name := "locksParked", fn := fun _ => fun
  | [d1, d2] => { results := [.lit (.bool false)], args := [d1, d2] }
  | _ => none }
def LocksParkedWrongFalsely : Prop := locksParkedRow.holds Try.pinned (OpenSpec.ofChange locksParkedWrong)

/- THE SECOND FORM. 'bulk': how many values and letters a reading holds, each counted each time it is reached (what is shared counts as often as it is met; a slice's spare places count too). A statement '..UptoSaid' is the law's where the arguments, and the package variables that the reading takes, are together of bulk at most 1048576: NARROWER than '..Said'. Prove '..Said' where nothing that the law and all that it calls make is longer than what came in: it says more and counts as full. Else prove '..UptoSaid'. A law counts once. -/
mutual
def uptoBulk {H : Type} : DataW H → Nat
  | .lit (.string bytes) => bytes.length + 1
  | .lit _ => 1
  | .nil => 1
  | .ptr d => uptoBulk d + 1
  | .slice elems spare => uptoBulkAll elems + uptoBulkAll spare + 1
  | .agg parts => uptoBulkAll parts + 1
  | .iface _ d => uptoBulk d + 1
  | .map entries => uptoBulkEntries entries + 1
  | .held _ => 1
def uptoBulkAll {H : Type} : List (DataW H) → Nat
  | [] => 0
  | d :: r => uptoBulk d + uptoBulkAll r
def uptoBulkEntries {H : Type} : List (Lit × DataW H) → Nat
  | [] => 0
  | x :: r => uptoBulkEntry x + uptoBulkEntries r
def uptoBulkEntry {H : Type} : Lit × DataW H → Nat
  | (.string bytes, d) => bytes.length + uptoBulk d + 1
  | (_, d) => uptoBulk d + 1
 end
def uptoSmall : (H : Type) → List (DataW H) → Bool := fun _ ds => decide (uptoBulkAll ds ≤ 1048576)
def OpenSpec.upto (s : _root_.Go.ChangeSpec) : _root_.Go.OpenSpec := { _root_.Go.OpenSpec.ofChange s with cond := some uptoSmall }

/-- 'argosylaw10.RouteOnce', WHERE WHAT IT READS IS OF BULK AT MOST 1048576: true; the input reads as it did. -/
def routeOnceUptoRow : OpenClaim := { program := "ytfjjocopmknhgaa", sum := "d0b7a505b63c799ed3974023d603e6dcc13de6f629a02ebfbb84de7f126b09f0", func := "argosy/argosylaw10.RouteOnce", spec := "routeOnce", inPlace := ["slices.overlaps[argosy/btree.item[string, argosy/api.Record]]", "slices.overlaps[*argosy/btree.node[string, argosy/api.Record]]"], unfollowed := true, recurses := true, plainKeys := false, apart := false, narrowed := true }
def RouteOnceUptoSaid : Prop := routeOnceUptoRow.holds Try.pinned (OpenSpec.upto routeOnceSpec)

/-- 'argosylaw07.EvalNumbers', WHERE WHAT IT READS IS OF BULK AT MOST 1048576: true; the input reads as it did. -/
def evalNumbersUptoRow : OpenClaim := { program := "ytfjjocopmknhgaa", sum := "d0b7a505b63c799ed3974023d603e6dcc13de6f629a02ebfbb84de7f126b09f0", func := "argosy/argosylaw07.EvalNumbers", spec := "evalNumbers", unfollowed := true, recurses := true, plainKeys := false, apart := false, narrowed := true }
def EvalNumbersUptoSaid : Prop := evalNumbersUptoRow.holds Try.pinned (OpenSpec.upto evalNumbersSpec)

/-- 'argosylaw10.RouteMakes', WHERE WHAT IT READS IS OF BULK AT MOST 1048576: true; the input reads as it did. -/
def routeMakesUptoRow : OpenClaim := { program := "ytfjjocopmknhgaa", sum := "d0b7a505b63c799ed3974023d603e6dcc13de6f629a02ebfbb84de7f126b09f0", func := "argosy/argosylaw10.RouteMakes", spec := "routeMakes", inPlace := ["slices.overlaps[argosy/btree.item[string, argosy/api.Record]]", "slices.overlaps[*argosy/btree.node[string, argosy/api.Record]]"], unfollowed := true, recurses := true, plainKeys := false, apart := false, narrowed := true }
def RouteMakesUptoSaid : Prop := routeMakesUptoRow.holds Try.pinned (OpenSpec.upto routeMakesSpec)

/-- 'argosylaw07.EvalAtomic', WHERE WHAT IT READS IS OF BULK AT MOST 1048576: true; the input reads as it did. -/
def evalAtomicUptoRow : OpenClaim := { program := "ytfjjocopmknhgaa", sum := "d0b7a505b63c799ed3974023d603e6dcc13de6f629a02ebfbb84de7f126b09f0", func := "argosy/argosylaw07.EvalAtomic", spec := "evalAtomic", inPlace := ["slices.overlaps[argosy/btree.item[string, argosy/api.Record]]", "slices.overlaps[*argosy/btree.node[string, argosy/api.Record]]"], unfollowed := true, recurses := true, plainKeys := false, apart := false, narrowed := true }
def EvalAtomicUptoSaid : Prop := evalAtomicUptoRow.holds Try.pinned (OpenSpec.upto evalAtomicSpec)

/-- 'argosylaw07.EvalOthers', WHERE WHAT IT READS IS OF BULK AT MOST 1048576: true; the input reads as it did. -/
def evalOthersUptoRow : OpenClaim := { program := "ytfjjocopmknhgaa", sum := "d0b7a505b63c799ed3974023d603e6dcc13de6f629a02ebfbb84de7f126b09f0", func := "argosy/argosylaw07.EvalOthers", spec := "evalOthers", inPlace := ["slices.overlaps[argosy/btree.item[string, argosy/api.Record]]", "slices.overlaps[*argosy/btree.node[string, argosy/api.Record]]"], unfollowed := true, recurses := true, plainKeys := false, apart := false, narrowed := true }
def EvalOthersUptoSaid : Prop := evalOthersUptoRow.holds Try.pinned (OpenSpec.upto evalOthersSpec)

/-- 'argosylaw07.EvalUndone', WHERE WHAT IT READS IS OF BULK AT MOST 1048576: true; the input reads as it did. -/
def evalUndoneUptoRow : OpenClaim := { program := "ytfjjocopmknhgaa", sum := "d0b7a505b63c799ed3974023d603e6dcc13de6f629a02ebfbb84de7f126b09f0", func := "argosy/argosylaw07.EvalUndone", spec := "evalUndone", inPlace := ["slices.overlaps[argosy/btree.item[string, argosy/api.Record]]", "slices.overlaps[*argosy/btree.node[string, argosy/api.Record]]"], unfollowed := true, recurses := true, plainKeys := false, apart := false, narrowed := true }
def EvalUndoneUptoSaid : Prop := evalUndoneUptoRow.holds Try.pinned (OpenSpec.upto evalUndoneSpec)

/-- 'argosylaw16.LocksOrdered', WHERE WHAT IT READS IS OF BULK AT MOST 1048576: true; the input reads as it did. -/
def locksOrderedUptoRow : OpenClaim := { program := "ytfjjocopmknhgaa", sum := "d0b7a505b63c799ed3974023d603e6dcc13de6f629a02ebfbb84de7f126b09f0", func := "argosy/argosylaw16.LocksOrdered", spec := "locksOrdered", unfollowed := true, recurses := true, plainKeys := false, apart := false, narrowed := true }
def LocksOrderedUptoSaid : Prop := locksOrderedUptoRow.holds Try.pinned (OpenSpec.upto locksOrderedSpec)

/-- 'argosylaw16.LocksParked', WHERE WHAT IT READS IS OF BULK AT MOST 1048576: true; the input reads as it did. -/
def locksParkedUptoRow : OpenClaim := { program := "ytfjjocopmknhgaa", sum := "d0b7a505b63c799ed3974023d603e6dcc13de6f629a02ebfbb84de7f126b09f0", func := "argosy/argosylaw16.LocksParked", spec := "locksParked", inPlace := ["slices.overlaps[argosy/btree.item[string, argosy/api.Record]]", "slices.overlaps[*argosy/btree.node[string, argosy/api.Record]]"], unfollowed := true, recurses := true, plainKeys := false, apart := false, narrowed := true }
def LocksParkedUptoSaid : Prop := locksParkedUptoRow.holds Try.pinned (OpenSpec.upto locksParkedSpec)

end Rows
end Go.Proofs.Ytfjjocopmknhgaa
