/-
  No cell of these rows narrows 'for every input' (looked for: loops, veiled, ifaces, maps, wideKeys, modest, calm, conditions, laid).
  DERIVED. THE GIVEN ROWS OF THIS SEAT. 9 by the template 'for every input the law returns true; each argument reads behind the call as it read before'; 0 by the template 'total and deterministic' (their statements: YtdpepgjbambinaaTotals.lean).
  GIVEN WITH THE SEED: the statements are not yours to turn. If you find one false, say at which input.
  Laid BY PROGRAM, IN A SANDBOX (cutbox-rows.mjs): the forced cells as the released guide's own fill.sh prints them over the translation 49fc34c583f8e3cf… (all of the seat's roots in one cut). By AI agents, Wed Nov 11 2026. No macro, syntax, notation, axiom, sorry.
-/
import Derived.Test.YtdpepgjbambinaaChecked
import GoSem.Claim
import GoSem.ClaimJoined
import GoSem.ClaimMapViews
import Derived.JoinedTies
import Derived.KernelRfl
namespace Go.Proofs.Ytdpepgjbambinaa
/- THE CELL 'sum', in the pinned program and in every row, IS THE sha256 OF THE DUMP (.gsa) THAT YtdpepgjbambinaaProg.lean LOADS. Nothing in Lean hashes anything: it is a label: what it is worth is what the hold of that sum in a sandbox is worth. -/
noncomputable def Try.pinned : Pinned := { name := "ytdpepgjbambinaa", sum := "49fc34c583f8e3cf0b8fbf37791028debd055c64b7136e56df91d13e9a8bbd2b", checked := Try.checked }
namespace Rows
def none {H : Type} : Left H := { results := [], args := [] }

/-- 'argosylaw07.EvalNumbers': WHATEVER THE INPUT: true; the input reads as it did. -/
def evalNumbersSpec : ChangeSpec := { name := "evalNumbers", fn := fun _ => fun
  | [d1, d2] => { results := [.lit (.bool true)], args := [d1, d2] }
  | _ => none }
def evalNumbersRow : OpenClaim := { program := "ytdpepgjbambinaa", sum := "49fc34c583f8e3cf0b8fbf37791028debd055c64b7136e56df91d13e9a8bbd2b", func := "argosy/argosylaw07.EvalNumbers", spec := "evalNumbers", unfollowed := true, recurses := true, plainKeys := false, apart := false }
def EvalNumbersSaid : Prop := evalNumbersRow.holds Try.pinned (OpenSpec.ofChange evalNumbersSpec)

/-- ITS FALSE NEIGHBOUR: 'it returns false'. Refute it at one input. -/
def evalNumbersWrong : ChangeSpec := { name := "evalNumbers", fn := fun _ => fun
  | [d1, d2] => { results := [.lit (.bool false)], args := [d1, d2] }
  | _ => none }
def EvalNumbersWrongFalsely : Prop := evalNumbersRow.holds Try.pinned (OpenSpec.ofChange evalNumbersWrong)

/-- 'argosylaw16.LocksOrdered': WHATEVER THE INPUT: true; the input reads as it did. -/
def locksOrderedSpec : ChangeSpec := { name := "locksOrdered", fn := fun _ => fun
  | [d1, d2] => { results := [.lit (.bool true)], args := [d1, d2] }
  | _ => none }
def locksOrderedRow : OpenClaim := { program := "ytdpepgjbambinaa", sum := "49fc34c583f8e3cf0b8fbf37791028debd055c64b7136e56df91d13e9a8bbd2b", func := "argosy/argosylaw16.LocksOrdered", spec := "locksOrdered", unfollowed := true, recurses := true, plainKeys := false, apart := false }
def LocksOrderedSaid : Prop := locksOrderedRow.holds Try.pinned (OpenSpec.ofChange locksOrderedSpec)

/-- ITS FALSE NEIGHBOUR: 'it returns false'. Refute it at one input. -/
def locksOrderedWrong : ChangeSpec := { name := "locksOrdered", fn := fun _ => fun
  | [d1, d2] => { results := [.lit (.bool false)], args := [d1, d2] }
  | _ => none }
def LocksOrderedWrongFalsely : Prop := locksOrderedRow.holds Try.pinned (OpenSpec.ofChange locksOrderedWrong)

/-- 'argosylaw04.WalKeeps': WHATEVER THE INPUT: true; the input reads as it did. -/
def walKeepsSpec : ChangeSpec := { name := "walKeeps", fn := fun _ => fun
  | [d1, d2] => { results := [.lit (.bool true)], args := [d1, d2] }
  | _ => none }
def walKeepsRow : OpenClaim := { program := "ytdpepgjbambinaa", sum := "49fc34c583f8e3cf0b8fbf37791028debd055c64b7136e56df91d13e9a8bbd2b", func := "argosy/argosylaw04.WalKeeps", spec := "walKeeps", unfollowed := true, recurses := true, plainKeys := false, apart := false }
def WalKeepsSaid : Prop := walKeepsRow.holds Try.pinned (OpenSpec.ofChange walKeepsSpec)

/-- ITS FALSE NEIGHBOUR: 'it returns false'. Refute it at one input. -/
def walKeepsWrong : ChangeSpec := { name := "walKeeps", fn := fun _ => fun
  | [d1, d2] => { results := [.lit (.bool false)], args := [d1, d2] }
  | _ => none }
def WalKeepsWrongFalsely : Prop := walKeepsRow.holds Try.pinned (OpenSpec.ofChange walKeepsWrong)

/-- 'argosylaw04.WalBeside': WHATEVER THE INPUT: true; the input reads as it did. -/
def walBesideSpec : ChangeSpec := { name := "walBeside", fn := fun _ => fun
  | [d1, d2] => { results := [.lit (.bool true)], args := [d1, d2] }
  | _ => none }
def walBesideRow : OpenClaim := { program := "ytdpepgjbambinaa", sum := "49fc34c583f8e3cf0b8fbf37791028debd055c64b7136e56df91d13e9a8bbd2b", func := "argosy/argosylaw04.WalBeside", spec := "walBeside", unfollowed := true, recurses := true, plainKeys := false, apart := false }
def WalBesideSaid : Prop := walBesideRow.holds Try.pinned (OpenSpec.ofChange walBesideSpec)

/-- ITS FALSE NEIGHBOUR: 'it returns false'. Refute it at one input. -/
def walBesideWrong : ChangeSpec := { name := "walBeside", fn := fun _ => fun
  | [d1, d2] => { results := [.lit (.bool false)], args := [d1, d2] }
  | _ => none }
def WalBesideWrongFalsely : Prop := walBesideRow.holds Try.pinned (OpenSpec.ofChange walBesideWrong)

/-- 'argosylaw04.WalAny': WHATEVER THE INPUT: true; the input reads as it did. -/
def walAnySpec : ChangeSpec := { name := "walAny", fn := fun _ => fun
  | [d] => { results := [.lit (.bool true)], args := [d] }
  | _ => none }
def walAnyRow : OpenClaim := { program := "ytdpepgjbambinaa", sum := "49fc34c583f8e3cf0b8fbf37791028debd055c64b7136e56df91d13e9a8bbd2b", func := "argosy/argosylaw04.WalAny", spec := "walAny", unfollowed := true, recurses := true, plainKeys := false, apart := false }
def WalAnySaid : Prop := walAnyRow.holds Try.pinned (OpenSpec.ofChange walAnySpec)

/-- ITS FALSE NEIGHBOUR: 'it returns false'. Refute it at one input. -/
def walAnyWrong : ChangeSpec := { name := "walAny", fn := fun _ => fun
  | [d] => { results := [.lit (.bool false)], args := [d] }
  | _ => none }
def WalAnyWrongFalsely : Prop := walAnyRow.holds Try.pinned (OpenSpec.ofChange walAnyWrong)

/-- 'argosylaw04.WalGoesOn': WHATEVER THE INPUT: true; the input reads as it did. -/
def walGoesOnSpec : ChangeSpec := { name := "walGoesOn", fn := fun _ => fun
  | [d1, d2, d3] => { results := [.lit (.bool true)], args := [d1, d2, d3] }
  | _ => none }
def walGoesOnRow : OpenClaim := { program := "ytdpepgjbambinaa", sum := "49fc34c583f8e3cf0b8fbf37791028debd055c64b7136e56df91d13e9a8bbd2b", func := "argosy/argosylaw04.WalGoesOn", spec := "walGoesOn", unfollowed := true, recurses := true, plainKeys := false, apart := false }
def WalGoesOnSaid : Prop := walGoesOnRow.holds Try.pinned (OpenSpec.ofChange walGoesOnSpec)

/-- ITS FALSE NEIGHBOUR: 'it returns false'. Refute it at one input. -/
def walGoesOnWrong : ChangeSpec := { name := "walGoesOn", fn := fun _ => fun
  | [d1, d2, d3] => { results := [.lit (.bool false)], args := [d1, d2, d3] }
  | _ => none }
def WalGoesOnWrongFalsely : Prop := walGoesOnRow.holds Try.pinned (OpenSpec.ofChange walGoesOnWrong)

/-- 'argosylaw21.FrontOnce': WHATEVER THE INPUT: true; the input reads as it did. -/
def frontOnceSpec : ChangeSpec := { name := "frontOnce", fn := fun _ => fun
  | [d1, d2] => { results := [.lit (.bool true)], args := [d1, d2] }
  | _ => none }
def frontOnceRow : OpenClaim := { program := "ytdpepgjbambinaa", sum := "49fc34c583f8e3cf0b8fbf37791028debd055c64b7136e56df91d13e9a8bbd2b", func := "argosy/argosylaw21.FrontOnce", spec := "frontOnce", unfollowed := true, recurses := true, plainKeys := false, apart := false }
def FrontOnceSaid : Prop := frontOnceRow.holds Try.pinned (OpenSpec.ofChange frontOnceSpec)

/-- ITS FALSE NEIGHBOUR: 'it returns false'. Refute it at one input. -/
def frontOnceWrong : ChangeSpec := { name := "frontOnce", fn := fun _ => fun
  | [d1, d2] => { results := [.lit (.bool false)], args := [d1, d2] }
  | _ => none }
def FrontOnceWrongFalsely : Prop := frontOnceRow.holds Try.pinned (OpenSpec.ofChange frontOnceWrong)

/-- 'argosylaw21.FrontTries': WHATEVER THE INPUT: true; the input reads as it did. -/
def frontTriesSpec : ChangeSpec := { name := "frontTries", fn := fun _ => fun
  | [d1, d2] => { results := [.lit (.bool true)], args := [d1, d2] }
  | _ => none }
def frontTriesRow : OpenClaim := { program := "ytdpepgjbambinaa", sum := "49fc34c583f8e3cf0b8fbf37791028debd055c64b7136e56df91d13e9a8bbd2b", func := "argosy/argosylaw21.FrontTries", spec := "frontTries", unfollowed := true, recurses := true, plainKeys := false, apart := false }
def FrontTriesSaid : Prop := frontTriesRow.holds Try.pinned (OpenSpec.ofChange frontTriesSpec)

/-- ITS FALSE NEIGHBOUR: 'it returns false'. Refute it at one input. -/
def frontTriesWrong : ChangeSpec := { name := "frontTries", fn := fun _ => fun
  | [d1, d2] => { results := [.lit (.bool false)], args := [d1, d2] }
  | _ => none }
def FrontTriesWrongFalsely : Prop := frontTriesRow.holds Try.pinned (OpenSpec.ofChange frontTriesWrong)

/-- 'argosylaw21.FrontFull': WHATEVER THE INPUT: true; the input reads as it did. -/
def frontFullSpec : ChangeSpec := { name := "frontFull", fn := fun _ => fun
  | [d] => { results := [.lit (.bool true)], args := [d] }
  | _ => none }
def frontFullRow : OpenClaim := { program := "ytdpepgjbambinaa", sum := "49fc34c583f8e3cf0b8fbf37791028debd055c64b7136e56df91d13e9a8bbd2b", func := "argosy/argosylaw21.FrontFull", spec := "frontFull", unfollowed := true, recurses := true, plainKeys := false, apart := false }
def FrontFullSaid : Prop := frontFullRow.holds Try.pinned (OpenSpec.ofChange frontFullSpec)

/-- ITS FALSE NEIGHBOUR: 'it returns false'. Refute it at one input. -/
def frontFullWrong : ChangeSpec := { name := "frontFull", fn := fun _ => fun
  | [d] => { results := [.lit (.bool false)], args := [d] }
  | _ => none }
def FrontFullWrongFalsely : Prop := frontFullRow.holds Try.pinned (OpenSpec.ofChange frontFullWrong)

/- THE SECOND FORM. 'bulk': how many values and letters a reading holds, each counted each time it is reached (what is shared counts as often as it is met; a slice's spare places count too). A statement '..UptoSaid' is the law's where the arguments, and the package variables that the reading takes, are together of bulk at most 1048576: NARROWER than '..Said'. Prove '..Said' where nothing that the law and all that it calls make is longer than what came in: it says more and counts as full. Else prove '..UptoSaid'. A law counts once. -/
mutual
def uptoBulk {H : Type} : DataW H → Nat
  | .lit (.string bytes) => bytes.length + 1
  | .lit _ => 1
  | .nil => 1
  | .ptr d => uptoBulk d + 1
  | .slice elems spare => uptoBulkAll elems + uptoBulkAll spare + 1
  | .agg parts => uptoBulkAll parts + 1
  | .iface _ d => uptoBulk d + 1
  | .map entries => uptoBulkEntries entries + 1
  | .held _ => 1
def uptoBulkAll {H : Type} : List (DataW H) → Nat
  | [] => 0
  | d :: r => uptoBulk d + uptoBulkAll r
def uptoBulkEntries {H : Type} : List (Lit × DataW H) → Nat
  | [] => 0
  | x :: r => uptoBulkEntry x + uptoBulkEntries r
def uptoBulkEntry {H : Type} : Lit × DataW H → Nat
  | (.string bytes, d) => bytes.length + uptoBulk d + 1
  | (_, d) => uptoBulk d + 1
 end
def uptoSmall : (H : Type) → List (DataW H) → Bool := fun _ ds => decide (uptoBulkAll ds ≤ 1048576)
def OpenSpec.upto (s : _root_.Go.ChangeSpec) : _root_.Go.OpenSpec := { _root_.Go.OpenSpec.ofChange s with cond := some uptoSmall }

/-- 'argosylaw07.EvalNumbers', WHERE WHAT IT READS IS OF BULK AT MOST 1048576: true; the input reads as it did. -/
def evalNumbersUptoRow : OpenClaim := { program := "ytdpepgjbambinaa", sum := "49fc34c583f8e3cf0b8fbf37791028debd055c64b7136e56df91d13e9a8bbd2b", func := "argosy/argosylaw07.EvalNumbers", spec := "evalNumbers", unfollowed := true, recurses := true, plainKeys := false, apart := false, narrowed := true }
def EvalNumbersUptoSaid : Prop := evalNumbersUptoRow.holds Try.pinned (OpenSpec.upto evalNumbersSpec)

/-- 'argosylaw16.LocksOrdered', WHERE WHAT IT READS IS OF BULK AT MOST 1048576: true; the input reads as it did. -/
def locksOrderedUptoRow : OpenClaim := { program := "ytdpepgjbambinaa", sum := "49fc34c583f8e3cf0b8fbf37791028debd055c64b7136e56df91d13e9a8bbd2b", func := "argosy/argosylaw16.LocksOrdered", spec := "locksOrdered", unfollowed := true, recurses := true, plainKeys := false, apart := false, narrowed := true }
def LocksOrderedUptoSaid : Prop := locksOrderedUptoRow.holds Try.pinned (OpenSpec.upto locksOrderedSpec)

/-- 'argosylaw04.WalKeeps', WHERE WHAT IT READS IS OF BULK AT MOST 1048576: true; the input reads as it did. -/
def walKeepsUptoRow : OpenClaim := { program := "ytdpepgjbambinaa", sum := "49fc34c583f8e3cf0b8fbf37791028debd055c64b7136e56df91d13e9a8bbd2b", func := "argosy/argosylaw04.WalKeeps", spec := "walKeeps", unfollowed := true, recurses := true, plainKeys := false, apart := false, narrowed := true }
def WalKeepsUptoSaid : Prop := walKeepsUptoRow.holds Try.pinned (OpenSpec.upto walKeepsSpec)

/-- 'argosylaw04.WalBeside', WHERE WHAT IT READS IS OF BULK AT MOST 1048576: true; the input reads as it did. -/
def walBesideUptoRow : OpenClaim := { program := "ytdpepgjbambinaa", sum := "49fc34c583f8e3cf0b8fbf37791028debd055c64b7136e56df91d13e9a8bbd2b", func := "argosy/argosylaw04.WalBeside", spec := "walBeside", unfollowed := true, recurses := true, plainKeys := false, apart := false, narrowed := true }
def WalBesideUptoSaid : Prop := walBesideUptoRow.holds Try.pinned (OpenSpec.upto walBesideSpec)

/-- 'argosylaw04.WalAny', WHERE WHAT IT READS IS OF BULK AT MOST 1048576: true; the input reads as it did. -/
def walAnyUptoRow : OpenClaim := { program := "ytdpepgjbambinaa", sum := "49fc34c583f8e3cf0b8fbf37791028debd055c64b7136e56df91d13e9a8bbd2b", func := "argosy/argosylaw04.WalAny", spec := "walAny", unfollowed := true, recurses := true, plainKeys := false, apart := false, narrowed := true }
def WalAnyUptoSaid : Prop := walAnyUptoRow.holds Try.pinned (OpenSpec.upto walAnySpec)

/-- 'argosylaw04.WalGoesOn', WHERE WHAT IT READS IS OF BULK AT MOST 1048576: true; the input reads as it did. -/
def walGoesOnUptoRow : OpenClaim := { program := "ytdpepgjbambinaa", sum := "49fc34c583f8e3cf0b8fbf37791028debd055c64b7136e56df91d13e9a8bbd2b", func := "argosy/argosylaw04.WalGoesOn", spec := "walGoesOn", unfollowed := true, recurses := true, plainKeys := false, apart := false, narrowed := true }
def WalGoesOnUptoSaid : Prop := walGoesOnUptoRow.holds Try.pinned (OpenSpec.upto walGoesOnSpec)

/-- 'argosylaw21.FrontOnce', WHERE WHAT IT READS IS OF BULK AT MOST 1048576: true; the input reads as it did. -/
def frontOnceUptoRow : OpenClaim := { program := "ytdpepgjbambinaa", sum := "49fc34c583f8e3cf0b8fbf37791028debd055c64b7136e56df91d13e9a8bbd2b", func := "argosy/argosylaw21.FrontOnce", spec := "frontOnce", unfollowed := true, recurses := true, plainKeys := false, apart := false, narrowed := true }
def FrontOnceUptoSaid : Prop := frontOnceUptoRow.holds Try.pinned (OpenSpec.upto frontOnceSpec)

/-- 'argosylaw21.FrontTries', WHERE WHAT IT READS IS OF BULK AT MOST 1048576: true; the input reads as it did. -/
def frontTriesUptoRow : OpenClaim := { program := "ytdpepgjbambinaa", sum := "49fc34c583f8e3cf0b8fbf37791028debd055c64b7136e56df91d13e9a8bbd2b", func := "argosy/argosylaw21.FrontTries", spec := "frontTries", unfollowed := true, recurses := true, plainKeys := false, apart := false, narrowed := true }
def FrontTriesUptoSaid : Prop := frontTriesUptoRow.holds Try.pinned (OpenSpec.upto frontTriesSpec)

/-- 'argosylaw21.FrontFull', WHERE WHAT IT READS IS OF BULK AT MOST 1048576: true; the input reads as it did. -/
def frontFullUptoRow : OpenClaim := { program := "ytdpepgjbambinaa", sum := "49fc34c583f8e3cf0b8fbf37791028debd055c64b7136e56df91d13e9a8bbd2b", func := "argosy/argosylaw21.FrontFull", spec := "frontFull", unfollowed := true, recurses := true, plainKeys := false, apart := false, narrowed := true }
def FrontFullUptoSaid : Prop := frontFullUptoRow.holds Try.pinned (OpenSpec.upto frontFullSpec)

end Rows
end Go.Proofs.Ytdpepgjbambinaa
