/-
  No cell of these rows narrows 'for every input' (looked for: loops, veiled, ifaces, maps, wideKeys, modest, calm, conditions, laid).
  DERIVED. THE GIVEN ROWS OF THIS SEAT. 3 by the template 'for every input the law returns true; each argument reads behind the call as it read before'; 0 by the template 'total and deterministic' (their statements: YteolfpghafdmdaaTotals.lean).
  GIVEN WITH THE SEED: the statements are not yours to turn. If you find one false, say at which input.
  Laid BY PROGRAM, IN A SANDBOX (cutbox-rows.mjs): the forced cells as the released guide's own fill.sh prints them over the translation bf6366d65f288741… (all of the seat's roots in one cut). By AI agents, Wed Nov 11 2026. No macro, syntax, notation, axiom, sorry.
-/
import Derived.Test.YteolfpghafdmdaaChecked
import GoSem.Claim
import GoSem.ClaimJoined
import GoSem.ClaimMapViews
import Derived.JoinedTies
import Derived.KernelRfl
namespace Go.Proofs.Yteolfpghafdmdaa
/- THE CELL 'sum', in the pinned program and in every row, IS THE sha256 OF THE DUMP (.gsa) THAT YteolfpghafdmdaaProg.lean LOADS. Nothing in Lean hashes anything: it is a label: what it is worth is what the hold of that sum in a sandbox is worth. -/
noncomputable def Try.pinned : Pinned := { name := "yteolfpghafdmdaa", sum := "bf6366d65f28874104a15e11d15ad51dca765c611e9489b7af1150dc39f65ec5", checked := Try.checked }
namespace Rows
def none {H : Type} : Left H := { results := [], args := [] }

/-- 'argosylaw21.FrontOnce': WHATEVER THE INPUT: true; the input reads as it did. -/
def frontOnceSpec : ChangeSpec := { name := "frontOnce", fn := fun _ => fun
  | [d1, d2] => { results := [.lit (.bool true)], args := [d1, d2] }
  | _ => none }
def frontOnceRow : OpenClaim := { program := "yteolfpghafdmdaa", sum := "bf6366d65f28874104a15e11d15ad51dca765c611e9489b7af1150dc39f65ec5", func := "argosy/argosylaw21.FrontOnce", spec := "frontOnce", unfollowed := true, recurses := true, plainKeys := false, apart := false }
def FrontOnceSaid : Prop := frontOnceRow.holds Try.pinned (OpenSpec.ofChange frontOnceSpec)

/-- ITS FALSE NEIGHBOUR: 'it returns false'. Refute it at one input. -/
def frontOnceWrong : ChangeSpec := { name := "frontOnce", fn := fun _ => fun
  | [d1, d2] => { results := [.lit (.bool false)], args := [d1, d2] }
  | _ => none }
def FrontOnceWrongFalsely : Prop := frontOnceRow.holds Try.pinned (OpenSpec.ofChange frontOnceWrong)

/-- 'argosylaw21.FrontTries': WHATEVER THE INPUT: true; the input reads as it did. -/
def frontTriesSpec : ChangeSpec := { name := "frontTries", fn := fun _ => fun
  | [d1, d2] => { results := [.lit (.bool true)], args := [d1, d2] }
  | _ => none }
def frontTriesRow : OpenClaim := { program := "yteolfpghafdmdaa", sum := "bf6366d65f28874104a15e11d15ad51dca765c611e9489b7af1150dc39f65ec5", func := "argosy/argosylaw21.FrontTries", spec := "frontTries", unfollowed := true, recurses := true, plainKeys := false, apart := false }
def FrontTriesSaid : Prop := frontTriesRow.holds Try.pinned (OpenSpec.ofChange frontTriesSpec)

/-- ITS FALSE NEIGHBOUR: 'it returns false'. Refute it at one input. -/
def frontTriesWrong : ChangeSpec := { name := "frontTries", fn := fun _ => fun
  | [d1, d2] => { results := [.lit (.bool false)], args := [d1, d2] }
  | _ => none }
def FrontTriesWrongFalsely : Prop := frontTriesRow.holds Try.pinned (OpenSpec.ofChange frontTriesWrong)

/-- 'argosylaw21.FrontFull': WHATEVER THE INPUT: true; the input reads as it did. -/
def frontFullSpec : ChangeSpec := { name := "frontFull", fn := fun _ => fun
  | [d] => { results := [.lit (.bool true)], args := [d] }
  | _ => none }
def frontFullRow : OpenClaim := { program := "yteolfpghafdmdaa", sum := "bf6366d65f28874104a15e11d15ad51dca765c611e9489b7af1150dc39f65ec5", func := "argosy/argosylaw21.FrontFull", spec := "frontFull", unfollowed := true, recurses := true, plainKeys := false, apart := false }
def FrontFullSaid : Prop := frontFullRow.holds Try.pinned (OpenSpec.ofChange frontFullSpec)

/-- ITS FALSE NEIGHBOUR: 'it returns false'. Refute it at one input. -/
def frontFullWrong : ChangeSpec := { name := "frontFull", fn := fun _ => fun
  | [d] => { results := [.lit (.bool false)], args := [d] }
  | _ => none }
def FrontFullWrongFalsely : Prop := frontFullRow.holds Try.pinned (OpenSpec.ofChange frontFullWrong)

/- THE SECOND FORM. 'bulk': how many values and letters a reading holds, each counted each time it is reached (what is shared counts as often as it is met; a slice's spare places count too). A statement '..UptoSaid' is the law's where the arguments, and the package variables that the reading takes, are together of bulk at most 1048576: NARROWER than '..Said'. Prove '..Said' where nothing that the law and all that it calls make is longer than what came in: it says more and counts as full. Else prove '..UptoSaid'. A law counts once. -/
mutual
def uptoBulk {H : Type} : DataW H → Nat
  | .lit (.string bytes) => bytes.length + 1
  | .lit _ => 1
  | .nil => 1
  | .ptr d => uptoBulk d + 1
  | .slice elems spare => uptoBulkAll elems + uptoBulkAll spare + 1
  | .agg parts => uptoBulkAll parts + 1
  | .iface _ d => uptoBulk d + 1
  | .map entries => uptoBulkEntries entries + 1
  | .held _ => 1
def uptoBulkAll {H : Type} : List (DataW H) → Nat
  | [] => 0
  | d :: r => uptoBulk d + uptoBulkAll r
def uptoBulkEntries {H : Type} : List (Lit × DataW H) → Nat
  | [] => 0
  | x :: r => uptoBulkEntry x + uptoBulkEntries r
def uptoBulkEntry {H : Type} : Lit × DataW H → Nat
  | (.string bytes, d) => bytes.length + uptoBulk d + 1
  | (_, d) => uptoBulk d + 1
 end
def uptoSmall : (H : Type) → List (DataW H) → Bool := fun _ ds => decide (uptoBulkAll ds ≤ 1048576)
def OpenSpec.upto (s : _root_.Go.ChangeSpec) : _root_.Go.OpenSpec := { _root_.Go.OpenSpec.ofChange s with cond := some uptoSmall }

/-- 'argosylaw21.FrontOnce', WHERE WHAT IT READS IS OF BULK AT MOST 1048576: true; the input reads as it did. -/
def frontOnceUptoRow : OpenClaim := { program := "yteolfpghafdmdaa", sum := "bf6366d65f28874104a15e11d15ad51dca765c611e9489b7af1150dc39f65ec5", func := "argosy/argosylaw21.FrontOnce", spec := "frontOnce", unfollowed := true, recurses := true, plainKeys := false, apart := false, narrowed := true }
def FrontOnceUptoSaid : Prop := frontOnceUptoRow.holds Try.pinned (OpenSpec.upto frontOnceSpec)

/-- 'argosylaw21.FrontTries', WHERE WHAT IT READS IS OF BULK AT MOST 1048576: true; the input reads as it did. -/
def frontTriesUptoRow : OpenClaim := { program := "yteolfpghafdmdaa", sum := "bf6366d65f28874104a15e11d15ad51dca765c611e9489b7af1150dc39f65ec5", func := "argosy/argosylaw21.FrontTries", spec := "frontTries", unfollowed := true, recurses := true, plainKeys := false, apart := false, narrowed := true }
def FrontTriesUptoSaid : Prop := frontTriesUptoRow.holds Try.pinned (OpenSpec.upto frontTriesSpec)

/-- 'argosylaw21.FrontFull', WHERE WHAT IT READS IS OF BULK AT MOST 1048576: true; the input reads as it did. -/
def frontFullUptoRow : OpenClaim := { program := "yteolfpghafdmdaa", sum := "bf6366d65f28874104a15e11d15ad51dca765c611e9489b7af1150dc39f65ec5", func := "argosy/argosylaw21.FrontFull", spec := "frontFull", unfollowed := true, recurses := true, plainKeys := false, apart := false, narrowed := true }
def FrontFullUptoSaid : Prop := frontFullUptoRow.holds Try.pinned (OpenSpec.upto frontFullSpec)

end Rows
end Go.Proofs.Yteolfpghafdmdaa
