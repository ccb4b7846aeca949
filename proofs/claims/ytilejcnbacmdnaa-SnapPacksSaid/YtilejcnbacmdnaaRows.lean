/-
  No cell of these rows narrows 'for every input' (looked for: loops, veiled, ifaces, maps, wideKeys, modest, calm, conditions, laid).
  DERIVED. THE GIVEN ROWS OF THIS SEAT. 11 by the template 'for every input the law returns true; each argument reads behind the call as it read before'; 0 by the template 'total and deterministic' (their statements: YtilejcnbacmdnaaTotals.lean).
  GIVEN WITH THE SEED: the statements are not yours to turn. If you find one false, say at which input.
  Laid BY PROGRAM, IN A SANDBOX (cutbox-rows.mjs): the forced cells as the released guide's own fill.sh prints them over the translation f1707a6d558150ca… (all of the seat's roots in one cut). By AI agents, Wed Nov 11 2026. No macro, syntax, notation, axiom, sorry.
-/
import Derived.Test.YtilejcnbacmdnaaChecked
import GoSem.Claim
import GoSem.ClaimJoined
import GoSem.ClaimMapViews
import Derived.JoinedTies
import Derived.KernelRfl
namespace Go.Proofs.Ytilejcnbacmdnaa
/- THE CELL 'sum', in the pinned program and in every row, IS THE sha256 OF THE DUMP (.gsa) THAT YtilejcnbacmdnaaProg.lean LOADS. Nothing in Lean hashes anything: it is a label: what it is worth is what the hold of that sum in a sandbox is worth. -/
noncomputable def Try.pinned : Pinned := { name := "ytilejcnbacmdnaa", sum := "f1707a6d558150ca5ea4c332b14b989a7e53e346a50fa1aa7cb74358a0086235", checked := Try.checked }
namespace Rows
def none {H : Type} : Left H := { results := [], args := [] }

/-- 'argosylaw10.RouteLooks': WHATEVER THE INPUT: true; the input reads as it did. -/
def routeLooksSpec : ChangeSpec := { name := "routeLooks", fn := fun _ => fun
  | [d1, d2] => { results := [.lit (.bool true)], args := [d1, d2] }
  | _ => none }
def routeLooksRow : OpenClaim := { program := "ytilejcnbacmdnaa", sum := "f1707a6d558150ca5ea4c332b14b989a7e53e346a50fa1aa7cb74358a0086235", func := "argosy/argosylaw10.RouteLooks", spec := "routeLooks", apart := false }
def RouteLooksSaid : Prop := routeLooksRow.holds Try.pinned (OpenSpec.ofChange routeLooksSpec)

/-- ITS FALSE NEIGHBOUR: 'it returns false'. Refute it at one input. -/
def routeLooksWrong : ChangeSpec := { name := "routeLooks", fn := fun _ => fun
  | [d1, d2] => { results := [.lit (.bool false)], args := [d1, d2] }
  | _ => none }
def RouteLooksWrongFalsely : Prop := routeLooksRow.holds Try.pinned (OpenSpec.ofChange routeLooksWrong)

/-- 'argosylaw20.NetWhole': WHATEVER THE INPUT: true; the input reads as it did. -/
def netWholeSpec : ChangeSpec := { name := "netWhole", fn := fun _ => fun
  | [d1, d2] => { results := [.lit (.bool true)], args := [d1, d2] }
  | _ => none }
def netWholeRow : OpenClaim := { program := "ytilejcnbacmdnaa", sum := "f1707a6d558150ca5ea4c332b14b989a7e53e346a50fa1aa7cb74358a0086235", func := "argosy/argosylaw20.NetWhole", spec := "netWhole", apart := false }
def NetWholeSaid : Prop := netWholeRow.holds Try.pinned (OpenSpec.ofChange netWholeSpec)

/-- ITS FALSE NEIGHBOUR: 'it returns false'. Refute it at one input. -/
def netWholeWrong : ChangeSpec := { name := "netWhole", fn := fun _ => fun
  | [d1, d2] => { results := [.lit (.bool false)], args := [d1, d2] }
  | _ => none }
def NetWholeWrongFalsely : Prop := netWholeRow.holds Try.pinned (OpenSpec.ofChange netWholeWrong)

/-- 'argosylaw20.NetPlays': WHATEVER THE INPUT: true; the input reads as it did. -/
def netPlaysSpec : ChangeSpec := { name := "netPlays", fn := fun _ => fun
  | [d] => { results := [.lit (.bool true)], args := [d] }
  | _ => none }
def netPlaysRow : OpenClaim := { program := "ytilejcnbacmdnaa", sum := "f1707a6d558150ca5ea4c332b14b989a7e53e346a50fa1aa7cb74358a0086235", func := "argosy/argosylaw20.NetPlays", spec := "netPlays", apart := false }
def NetPlaysSaid : Prop := netPlaysRow.holds Try.pinned (OpenSpec.ofChange netPlaysSpec)

/-- ITS FALSE NEIGHBOUR: 'it returns false'. Refute it at one input. -/
def netPlaysWrong : ChangeSpec := { name := "netPlays", fn := fun _ => fun
  | [d] => { results := [.lit (.bool false)], args := [d] }
  | _ => none }
def NetPlaysWrongFalsely : Prop := netPlaysRow.holds Try.pinned (OpenSpec.ofChange netPlaysWrong)

/-- 'argosylaw20.NetFirst': WHATEVER THE INPUT: true; the input reads as it did. -/
def netFirstSpec : ChangeSpec := { name := "netFirst", fn := fun _ => fun
  | [d1, d2] => { results := [.lit (.bool true)], args := [d1, d2] }
  | _ => none }
def netFirstRow : OpenClaim := { program := "ytilejcnbacmdnaa", sum := "f1707a6d558150ca5ea4c332b14b989a7e53e346a50fa1aa7cb74358a0086235", func := "argosy/argosylaw20.NetFirst", spec := "netFirst", apart := false }
def NetFirstSaid : Prop := netFirstRow.holds Try.pinned (OpenSpec.ofChange netFirstSpec)

/-- ITS FALSE NEIGHBOUR: 'it returns false'. Refute it at one input. -/
def netFirstWrong : ChangeSpec := { name := "netFirst", fn := fun _ => fun
  | [d1, d2] => { results := [.lit (.bool false)], args := [d1, d2] }
  | _ => none }
def NetFirstWrongFalsely : Prop := netFirstRow.holds Try.pinned (OpenSpec.ofChange netFirstWrong)

/-- 'argosylaw19.LinkAgain': WHATEVER THE INPUT: true; the input reads as it did. -/
def linkAgainSpec : ChangeSpec := { name := "linkAgain", fn := fun _ => fun
  | [d1, d2] => { results := [.lit (.bool true)], args := [d1, d2] }
  | _ => none }
def linkAgainRow : OpenClaim := { program := "ytilejcnbacmdnaa", sum := "f1707a6d558150ca5ea4c332b14b989a7e53e346a50fa1aa7cb74358a0086235", func := "argosy/argosylaw19.LinkAgain", spec := "linkAgain", apart := false }
def LinkAgainSaid : Prop := linkAgainRow.holds Try.pinned (OpenSpec.ofChange linkAgainSpec)

/-- ITS FALSE NEIGHBOUR: 'it returns false'. Refute it at one input. -/
def linkAgainWrong : ChangeSpec := { name := "linkAgain", fn := fun _ => fun
  | [d1, d2] => { results := [.lit (.bool false)], args := [d1, d2] }
  | _ => none }
def LinkAgainWrongFalsely : Prop := linkAgainRow.holds Try.pinned (OpenSpec.ofChange linkAgainWrong)

/-- 'argosylaw19.LinkOrders': WHATEVER THE INPUT: true; the input reads as it did. -/
def linkOrdersSpec : ChangeSpec := { name := "linkOrders", fn := fun _ => fun
  | [d] => { results := [.lit (.bool true)], args := [d] }
  | _ => none }
def linkOrdersRow : OpenClaim := { program := "ytilejcnbacmdnaa", sum := "f1707a6d558150ca5ea4c332b14b989a7e53e346a50fa1aa7cb74358a0086235", func := "argosy/argosylaw19.LinkOrders", spec := "linkOrders", apart := false }
def LinkOrdersSaid : Prop := linkOrdersRow.holds Try.pinned (OpenSpec.ofChange linkOrdersSpec)

/-- ITS FALSE NEIGHBOUR: 'it returns false'. Refute it at one input. -/
def linkOrdersWrong : ChangeSpec := { name := "linkOrders", fn := fun _ => fun
  | [d] => { results := [.lit (.bool false)], args := [d] }
  | _ => none }
def LinkOrdersWrongFalsely : Prop := linkOrdersRow.holds Try.pinned (OpenSpec.ofChange linkOrdersWrong)

/-- 'argosylaw19.LinkLives': WHATEVER THE INPUT: true; the input reads as it did. -/
def linkLivesSpec : ChangeSpec := { name := "linkLives", fn := fun _ => fun
  | [d1, d2] => { results := [.lit (.bool true)], args := [d1, d2] }
  | _ => none }
def linkLivesRow : OpenClaim := { program := "ytilejcnbacmdnaa", sum := "f1707a6d558150ca5ea4c332b14b989a7e53e346a50fa1aa7cb74358a0086235", func := "argosy/argosylaw19.LinkLives", spec := "linkLives", apart := false }
def LinkLivesSaid : Prop := linkLivesRow.holds Try.pinned (OpenSpec.ofChange linkLivesSpec)

/-- ITS FALSE NEIGHBOUR: 'it returns false'. Refute it at one input. -/
def linkLivesWrong : ChangeSpec := { name := "linkLives", fn := fun _ => fun
  | [d1, d2] => { results := [.lit (.bool false)], args := [d1, d2] }
  | _ => none }
def LinkLivesWrongFalsely : Prop := linkLivesRow.holds Try.pinned (OpenSpec.ofChange linkLivesWrong)

/-- 'argosylaw19.LinkRoom': WHATEVER THE INPUT: true; the input reads as it did. -/
def linkRoomSpec : ChangeSpec := { name := "linkRoom", fn := fun _ => fun
  | [d1, d2] => { results := [.lit (.bool true)], args := [d1, d2] }
  | _ => none }
def linkRoomRow : OpenClaim := { program := "ytilejcnbacmdnaa", sum := "f1707a6d558150ca5ea4c332b14b989a7e53e346a50fa1aa7cb74358a0086235", func := "argosy/argosylaw19.LinkRoom", spec := "linkRoom", apart := false }
def LinkRoomSaid : Prop := linkRoomRow.holds Try.pinned (OpenSpec.ofChange linkRoomSpec)

/-- ITS FALSE NEIGHBOUR: 'it returns false'. Refute it at one input. -/
def linkRoomWrong : ChangeSpec := { name := "linkRoom", fn := fun _ => fun
  | [d1, d2] => { results := [.lit (.bool false)], args := [d1, d2] }
  | _ => none }
def LinkRoomWrongFalsely : Prop := linkRoomRow.holds Try.pinned (OpenSpec.ofChange linkRoomWrong)

/-- 'argosylaw19.LinkPlays': WHATEVER THE INPUT: true; the input reads as it did. -/
def linkPlaysSpec : ChangeSpec := { name := "linkPlays", fn := fun _ => fun
  | [d1, d2] => { results := [.lit (.bool true)], args := [d1, d2] }
  | _ => none }
def linkPlaysRow : OpenClaim := { program := "ytilejcnbacmdnaa", sum := "f1707a6d558150ca5ea4c332b14b989a7e53e346a50fa1aa7cb74358a0086235", func := "argosy/argosylaw19.LinkPlays", spec := "linkPlays", apart := false }
def LinkPlaysSaid : Prop := linkPlaysRow.holds Try.pinned (OpenSpec.ofChange linkPlaysSpec)

/-- ITS FALSE NEIGHBOUR: 'it returns false'. Refute it at one input. -/
def linkPlaysWrong : ChangeSpec := { name := "linkPlays", fn := fun _ => fun
  | [d1, d2] => { results := [.lit (.bool false)], args := [d1, d2] }
  | _ => none }
def LinkPlaysWrongFalsely : Prop := linkPlaysRow.holds Try.pinned (OpenSpec.ofChange linkPlaysWrong)

/-- 'argosylaw08.SnapPacks': WHATEVER THE INPUT: true; the input reads as it did. -/
def snapPacksSpec : ChangeSpec := { name := "snapPacks", fn := fun _ => fun
  | [d1, d2] => { results := [.lit (.bool true)], args := [d1, d2] }
  | _ => none }
def snapPacksRow : OpenClaim := { program := "ytilejcnbacmdnaa", sum := "f1707a6d558150ca5ea4c332b14b989a7e53e346a50fa1aa7cb74358a0086235", func := "argosy/argosylaw08.SnapPacks", spec := "snapPacks", unfollowed := true, recurses := true, apart := false }
def SnapPacksSaid : Prop := snapPacksRow.holds Try.pinned (OpenSpec.ofChange snapPacksSpec)

/-- ITS FALSE NEIGHBOUR: 'it returns false'. Refute it at one input. -/
def snapPacksWrong : ChangeSpec := { name := "snapPacks", fn := fun _ => fun
  | [d1, d2] => { results := [.lit (.bool false)], args := [d1, d2] }
  | _ => none }
def SnapPacksWrongFalsely : Prop := snapPacksRow.holds Try.pinned (OpenSpec.ofChange snapPacksWrong)

/-- 'argosylaw08.SnapUnlike': WHATEVER THE INPUT: true; the input reads as it did. -/
def snapUnlikeSpec : ChangeSpec := { name := "snapUnlike", fn := fun _ => fun
  | [d1, d2, d3] => { results := [.lit (.bool true)], args := [d1, d2, d3] }
  | _ => none }
def snapUnlikeRow : OpenClaim := { program := "ytilejcnbacmdnaa", sum := "f1707a6d558150ca5ea4c332b14b989a7e53e346a50fa1aa7cb74358a0086235", func := "argosy/argosylaw08.SnapUnlike", spec := "snapUnlike", unfollowed := true, recurses := true, apart := false }
def SnapUnlikeSaid : Prop := snapUnlikeRow.holds Try.pinned (OpenSpec.ofChange snapUnlikeSpec)

/-- ITS FALSE NEIGHBOUR: 'it returns false'. Refute it at one input. -/
def snapUnlikeWrong : ChangeSpec := { name := "snapUnlike", fn := fun _ => fun
  | [d1, d2, d3] => { results := [.lit (.bool false)], args := [d1, d2, d3] }
  | _ => none }
def SnapUnlikeWrongFalsely : Prop := snapUnlikeRow.holds Try.pinned (OpenSpec.ofChange snapUnlikeWrong)

/- THE SECOND FORM. 'bulk': how many values and letters a reading holds, each counted each time it is reached (what is shared counts as often as it is met; a slice's spare places count too). A statement '..UptoSaid' is the law's where the arguments, and the package variables that the reading takes, are together of bulk at most 1048576: NARROWER than '..Said'. Prove '..Said' where nothing that the law and all that it calls make is longer than what came in: it says more and counts as full. Else prove '..UptoSaid'. A law counts once. -/
mutual
def uptoBulk {H : Type} : DataW H → Nat
  | .lit (.string bytes) => bytes.length + 1
  | .lit _ => 1
  | .nil => 1
  | .ptr d => uptoBulk d + 1
  | .slice elems spare => uptoBulkAll elems + uptoBulkAll spare + 1
  | .agg parts => uptoBulkAll parts + 1
  | .iface _ d => uptoBulk d + 1
  | .map entries => uptoBulkEntries entries + 1
  | .held _ => 1
def uptoBulkAll {H : Type} : List (DataW H) → Nat
  | [] => 0
  | d :: r => uptoBulk d + uptoBulkAll r
def uptoBulkEntries {H : Type} : List (Lit × DataW H) → Nat
  | [] => 0
  | x :: r => uptoBulkEntry x + uptoBulkEntries r
def uptoBulkEntry {H : Type} : Lit × DataW H → Nat
  | (.string bytes, d) => bytes.length + uptoBulk d + 1
  | (_, d) => uptoBulk d + 1
 end
def uptoSmall : (H : Type) → List (DataW H) → Bool := fun _ ds => decide (uptoBulkAll ds ≤ 1048576)
def OpenSpec.upto (s : _root_.Go.ChangeSpec) : _root_.Go.OpenSpec := { _root_.Go.OpenSpec.ofChange s with cond := some uptoSmall }

/-- 'argosylaw10.RouteLooks', WHERE WHAT IT READS IS OF BULK AT MOST 1048576: true; the input reads as it did. -/
def routeLooksUptoRow : OpenClaim := { program := "ytilejcnbacmdnaa", sum := "f1707a6d558150ca5ea4c332b14b989a7e53e346a50fa1aa7cb74358a0086235", func := "argosy/argosylaw10.RouteLooks", spec := "routeLooks", apart := false, narrowed := true }
def RouteLooksUptoSaid : Prop := routeLooksUptoRow.holds Try.pinned (OpenSpec.upto routeLooksSpec)

/-- 'argosylaw20.NetWhole', WHERE WHAT IT READS IS OF BULK AT MOST 1048576: true; the input reads as it did. -/
def netWholeUptoRow : OpenClaim := { program := "ytilejcnbacmdnaa", sum := "f1707a6d558150ca5ea4c332b14b989a7e53e346a50fa1aa7cb74358a0086235", func := "argosy/argosylaw20.NetWhole", spec := "netWhole", apart := false, narrowed := true }
def NetWholeUptoSaid : Prop := netWholeUptoRow.holds Try.pinned (OpenSpec.upto netWholeSpec)

/-- 'argosylaw20.NetPlays', WHERE WHAT IT READS IS OF BULK AT MOST 1048576: true; the input reads as it did. -/
def netPlaysUptoRow : OpenClaim := { program := "ytilejcnbacmdnaa", sum := "f1707a6d558150ca5ea4c332b14b989a7e53e346a50fa1aa7cb74358a0086235", func := "argosy/argosylaw20.NetPlays", spec := "netPlays", apart := false, narrowed := true }
def NetPlaysUptoSaid : Prop := netPlaysUptoRow.holds Try.pinned (OpenSpec.upto netPlaysSpec)

/-- 'argosylaw20.NetFirst', WHERE WHAT IT READS IS OF BULK AT MOST 1048576: true; the input reads as it did. -/
def netFirstUptoRow : OpenClaim := { program := "ytilejcnbacmdnaa", sum := "f1707a6d558150ca5ea4c332b14b989a7e53e346a50fa1aa7cb74358a0086235", func := "argosy/argosylaw20.NetFirst", spec := "netFirst", apart := false, narrowed := true }
def NetFirstUptoSaid : Prop := netFirstUptoRow.holds Try.pinned (OpenSpec.upto netFirstSpec)

/-- 'argosylaw19.LinkAgain', WHERE WHAT IT READS IS OF BULK AT MOST 1048576: true; the input reads as it did. -/
def linkAgainUptoRow : OpenClaim := { program := "ytilejcnbacmdnaa", sum := "f1707a6d558150ca5ea4c332b14b989a7e53e346a50fa1aa7cb74358a0086235", func := "argosy/argosylaw19.LinkAgain", spec := "linkAgain", apart := false, narrowed := true }
def LinkAgainUptoSaid : Prop := linkAgainUptoRow.holds Try.pinned (OpenSpec.upto linkAgainSpec)

/-- 'argosylaw19.LinkOrders', WHERE WHAT IT READS IS OF BULK AT MOST 1048576: true; the input reads as it did. -/
def linkOrdersUptoRow : OpenClaim := { program := "ytilejcnbacmdnaa", sum := "f1707a6d558150ca5ea4c332b14b989a7e53e346a50fa1aa7cb74358a0086235", func := "argosy/argosylaw19.LinkOrders", spec := "linkOrders", apart := false, narrowed := true }
def LinkOrdersUptoSaid : Prop := linkOrdersUptoRow.holds Try.pinned (OpenSpec.upto linkOrdersSpec)

/-- 'argosylaw19.LinkLives', WHERE WHAT IT READS IS OF BULK AT MOST 1048576: true; the input reads as it did. -/
def linkLivesUptoRow : OpenClaim := { program := "ytilejcnbacmdnaa", sum := "f1707a6d558150ca5ea4c332b14b989a7e53e346a50fa1aa7cb74358a0086235", func := "argosy/argosylaw19.LinkLives", spec := "linkLives", apart := false, narrowed := true }
def LinkLivesUptoSaid : Prop := linkLivesUptoRow.holds Try.pinned (OpenSpec.upto linkLivesSpec)

/-- 'argosylaw19.LinkRoom', WHERE WHAT IT READS IS OF BULK AT MOST 1048576: true; the input reads as it did. -/
def linkRoomUptoRow : OpenClaim := { program := "ytilejcnbacmdnaa", sum := "f1707a6d558150ca5ea4c332b14b989a7e53e346a50fa1aa7cb74358a0086235", func := "argosy/argosylaw19.LinkRoom", spec := "linkRoom", apart := false, narrowed := true }
def LinkRoomUptoSaid : Prop := linkRoomUptoRow.holds Try.pinned (OpenSpec.upto linkRoomSpec)

/-- 'argosylaw19.LinkPlays', WHERE WHAT IT READS IS OF BULK AT MOST 1048576: true; the input reads as it did. -/
def linkPlaysUptoRow : OpenClaim := { program := "ytilejcnbacmdnaa", sum := "f1707a6d558150ca5ea4c332b14b989a7e53e346a50fa1aa7cb74358a0086235", func := "argosy/argosylaw19.LinkPlays", spec := "linkPlays", apart := false, narrowed := true }
def LinkPlaysUptoSaid : Prop := linkPlaysUptoRow.holds Try.pinned (OpenSpec.upto linkPlaysSpec)

/-- 'argosylaw08.SnapPacks', WHERE WHAT IT READS IS OF BULK AT MOST 1048576: true; the input reads as it did. -/
def snapPacksUptoRow : OpenClaim := { program := "ytilejcnbacmdnaa", sum := "f1707a6d558150ca5ea4c332b14b989a7e53e346a50fa1aa7cb74358a0086235", func := "argosy/argosylaw08.SnapPacks", spec := "snapPacks", unfollowed := true, recurses := true, apart := false, narrowed := true }
def SnapPacksUptoSaid : Prop := snapPacksUptoRow.holds Try.pinned (OpenSpec.upto snapPacksSpec)

/-- 'argosylaw08.SnapUnlike', WHERE WHAT IT READS IS OF BULK AT MOST 1048576: true; the input reads as it did. -/
def snapUnlikeUptoRow : OpenClaim := { program := "ytilejcnbacmdnaa", sum := "f1707a6d558150ca5ea4c332b14b989a7e53e346a50fa1aa7cb74358a0086235", func := "argosy/argosylaw08.SnapUnlike", spec := "snapUnlike", unfollowed := true, recurses := true, apart := false, narrowed := true }
def SnapUnlikeUptoSaid : Prop := snapUnlikeUptoRow.holds Try.pinned (OpenSpec.upto snapUnlikeSpec)

end Rows
end Go.Proofs.Ytilejcnbacmdnaa
