/-
  No cell of these rows narrows 'for every input' (looked for: loops, veiled, ifaces, maps, wideKeys, modest, calm, conditions, laid).
  DERIVED. THE GIVEN ROWS OF THIS SEAT. 6 by the template 'for every input the law returns true; each argument reads behind the call as it read before'; 0 by the template 'total and deterministic' (their statements: YtabjdjkkpbkpfaaTotals.lean).
  GIVEN WITH THE SEED: the statements are not yours to turn. If you find one false, say at which input.
  Laid BY PROGRAM, IN A SANDBOX (cutbox-rows.mjs): the forced cells as the released guide's own fill.sh prints them over the translation 832b8d263f594f25… (all of the seat's roots in one cut). By AI agents, Wed Nov 11 2026. No macro, syntax, notation, axiom, sorry.
-/
import Derived.Test.YtabjdjkkpbkpfaaChecked
import GoSem.Claim
import GoSem.ClaimJoined
import GoSem.ClaimMapViews
import Derived.JoinedTies
import Derived.KernelRfl
namespace Go.Proofs.Ytabjdjkkpbkpfaa
/- THE CELL 'sum', in the pinned program and in every row, IS THE sha256 OF THE DUMP (.gsa) THAT YtabjdjkkpbkpfaaProg.lean LOADS. Nothing in Lean hashes anything: it is a label: what it is worth is what the hold of that sum in a sandbox is worth. -/
noncomputable def Try.pinned : Pinned := { name := "ytabjdjkkpbkpfaa", sum := "832b8d263f594f25169a2ad06212813a16e9902ebd5fd0add686b5743898190b", checked := Try.checked }
namespace Rows
def none {H : Type} : Left H := { results := [], args := [] }

/-- 'millpondlaw18.SpaceIn': WHATEVER THE INPUT: true; the input reads as it did. -/
def spaceInSpec : ChangeSpec := { name := "spaceIn", fn := fun _ => fun
  | [d1, d2, d3, d4] => { results := [.lit (.bool true)], args := [d1, d2, d3, d4] }
  | _ => none }
def spaceInRow : OpenClaim := { program := "ytabjdjkkpbkpfaa", sum := "832b8d263f594f25169a2ad06212813a16e9902ebd5fd0add686b5743898190b", func := "millpond/millpondlaw18.SpaceIn", spec := "spaceIn", unfollowed := true, recurses := true, apart := false }
def SpaceInSaid : Prop := spaceInRow.holds Try.pinned (OpenSpec.ofChange spaceInSpec)

/-- ITS FALSE NEIGHBOUR: 'it returns false'. Refute it at one input. -/
def spaceInWrong : ChangeSpec := { name := "spaceIn", fn := fun _ => fun
  | [d1, d2, d3, d4] => { results := [.lit (.bool false)], args := [d1, d2, d3, d4] }
  | _ => none }
def SpaceInWrongFalsely : Prop := spaceInRow.holds Try.pinned (OpenSpec.ofChange spaceInWrong)

/-- 'millpondlaw18.SpaceApart': WHATEVER THE INPUT: true; the input reads as it did. -/
def spaceApartSpec : ChangeSpec := { name := "spaceApart", fn := fun _ => fun
  | [d1, d2, d3] => { results := [.lit (.bool true)], args := [d1, d2, d3] }
  | _ => none }
def spaceApartRow : OpenClaim := { program := "ytabjdjkkpbkpfaa", sum := "832b8d263f594f25169a2ad06212813a16e9902ebd5fd0add686b5743898190b", func := "millpond/millpondlaw18.SpaceApart", spec := "spaceApart", unfollowed := true, recurses := true, apart := false }
def SpaceApartSaid : Prop := spaceApartRow.holds Try.pinned (OpenSpec.ofChange spaceApartSpec)

/-- ITS FALSE NEIGHBOUR: 'it returns false'. Refute it at one input. -/
def spaceApartWrong : ChangeSpec := { name := "spaceApart", fn := fun _ => fun
  | [d1, d2, d3] => { results := [.lit (.bool false)], args := [d1, d2, d3] }
  | _ => none }
def SpaceApartWrongFalsely : Prop := spaceApartRow.holds Try.pinned (OpenSpec.ofChange spaceApartWrong)

/-- 'millpondlaw18.SpaceTouch': WHATEVER THE INPUT: true; the input reads as it did. -/
def spaceTouchSpec : ChangeSpec := { name := "spaceTouch", fn := fun _ => fun
  | [d1, d2] => { results := [.lit (.bool true)], args := [d1, d2] }
  | _ => none }
def spaceTouchRow : OpenClaim := { program := "ytabjdjkkpbkpfaa", sum := "832b8d263f594f25169a2ad06212813a16e9902ebd5fd0add686b5743898190b", func := "millpond/millpondlaw18.SpaceTouch", spec := "spaceTouch", unfollowed := true, recurses := true, apart := false }
def SpaceTouchSaid : Prop := spaceTouchRow.holds Try.pinned (OpenSpec.ofChange spaceTouchSpec)

/-- ITS FALSE NEIGHBOUR: 'it returns false'. Refute it at one input. -/
def spaceTouchWrong : ChangeSpec := { name := "spaceTouch", fn := fun _ => fun
  | [d1, d2] => { results := [.lit (.bool false)], args := [d1, d2] }
  | _ => none }
def SpaceTouchWrongFalsely : Prop := spaceTouchRow.holds Try.pinned (OpenSpec.ofChange spaceTouchWrong)

/-- 'millpondlaw18.SpaceMaps': WHATEVER THE INPUT: true; the input reads as it did. -/
def spaceMapsSpec : ChangeSpec := { name := "spaceMaps", fn := fun _ => fun
  | [d1, d2, d3] => { results := [.lit (.bool true)], args := [d1, d2, d3] }
  | _ => none }
def spaceMapsRow : OpenClaim := { program := "ytabjdjkkpbkpfaa", sum := "832b8d263f594f25169a2ad06212813a16e9902ebd5fd0add686b5743898190b", func := "millpond/millpondlaw18.SpaceMaps", spec := "spaceMaps", unfollowed := true, recurses := true, apart := false }
def SpaceMapsSaid : Prop := spaceMapsRow.holds Try.pinned (OpenSpec.ofChange spaceMapsSpec)

/-- ITS FALSE NEIGHBOUR: 'it returns false'. Refute it at one input. -/
def spaceMapsWrong : ChangeSpec := { name := "spaceMaps", fn := fun _ => fun
  | [d1, d2, d3] => { results := [.lit (.bool false)], args := [d1, d2, d3] }
  | _ => none }
def SpaceMapsWrongFalsely : Prop := spaceMapsRow.holds Try.pinned (OpenSpec.ofChange spaceMapsWrong)

/-- 'millpondlaw18.SpaceDoes': WHATEVER THE INPUT: true; the input reads as it did. -/
def spaceDoesSpec : ChangeSpec := { name := "spaceDoes", fn := fun _ => fun
  | [d1, d2] => { results := [.lit (.bool true)], args := [d1, d2] }
  | _ => none }
def spaceDoesRow : OpenClaim := { program := "ytabjdjkkpbkpfaa", sum := "832b8d263f594f25169a2ad06212813a16e9902ebd5fd0add686b5743898190b", func := "millpond/millpondlaw18.SpaceDoes", spec := "spaceDoes", unfollowed := true, recurses := true, apart := false }
def SpaceDoesSaid : Prop := spaceDoesRow.holds Try.pinned (OpenSpec.ofChange spaceDoesSpec)

/-- ITS FALSE NEIGHBOUR: 'it returns false'. Refute it at one input. -/
def spaceDoesWrong : ChangeSpec := { name := "spaceDoes", fn := fun _ => fun
  | [d1, d2] => { results := [.lit (.bool false)], args := [d1, d2] }
  | _ => none }
def SpaceDoesWrongFalsely : Prop := spaceDoesRow.holds Try.pinned (OpenSpec.ofChange spaceDoesWrong)

/-- 'millpondlaw18.SpaceIds': WHATEVER THE INPUT: true; the input reads as it did. -/
def spaceIdsSpec : ChangeSpec := { name := "spaceIds", fn := fun _ => fun
  | [d] => { results := [.lit (.bool true)], args := [d] }
  | _ => none }
def spaceIdsRow : OpenClaim := { program := "ytabjdjkkpbkpfaa", sum := "832b8d263f594f25169a2ad06212813a16e9902ebd5fd0add686b5743898190b", func := "millpond/millpondlaw18.SpaceIds", spec := "spaceIds", unfollowed := true, recurses := true, apart := false }
def SpaceIdsSaid : Prop := spaceIdsRow.holds Try.pinned (OpenSpec.ofChange spaceIdsSpec)

/-- ITS FALSE NEIGHBOUR: 'it returns false'. Refute it at one input. -/
def spaceIdsWrong : ChangeSpec := { name := "spaceIds", fn := fun _ => fun
  | [d] => { results := [.lit (.bool false)], args := [d] }
  | _ => none }
def SpaceIdsWrongFalsely : Prop := spaceIdsRow.holds Try.pinned (OpenSpec.ofChange spaceIdsWrong)

/- THE SECOND FORM. 'bulk': how many values and letters a reading holds, each counted each time it is reached (what is shared counts as often as it is met; a slice's spare places count too). A statement '..UptoSaid' is the law's where the arguments, and the package variables that the reading takes, are together of bulk at most 1048576: NARROWER than '..Said'. Prove '..Said' where nothing that the law and all that it calls make is longer than what came in: it says more and counts as full. Else prove '..UptoSaid'. A law counts once. -/
mutual
def uptoBulk {H : Type} : DataW H → Nat
  | .lit (.string bytes) => bytes.length + 1
  | .lit _ => 1
  | .nil => 1
  | .ptr d => uptoBulk d + 1
  | .slice elems spare => uptoBulkAll elems + uptoBulkAll spare + 1
  | .agg parts => uptoBulkAll parts + 1
  | .iface _ d => uptoBulk d + 1
  | .map entries => uptoBulkEntries entries + 1
  | .held _ => 1
def uptoBulkAll {H : Type} : List (DataW H) → Nat
  | [] => 0
  | d :: r => uptoBulk d + uptoBulkAll r
def uptoBulkEntries {H : Type} : List (Lit × DataW H) → Nat
  | [] => 0
  | x :: r => uptoBulkEntry x + uptoBulkEntries r
def uptoBulkEntry {H : Type} : Lit × DataW H → Nat
  | (.string bytes, d) => bytes.length + uptoBulk d + 1
  | (_, d) => uptoBulk d + 1
 end
def uptoSmall : (H : Type) → List (DataW H) → Bool := fun _ ds => decide (uptoBulkAll ds ≤ 1048576)
def OpenSpec.upto (s : _root_.Go.ChangeSpec) : _root_.Go.OpenSpec := { _root_.Go.OpenSpec.ofChange s with cond := some uptoSmall }

/-- 'millpondlaw18.SpaceIn', WHERE WHAT IT READS IS OF BULK AT MOST 1048576: true; the input reads as it did. -/
def spaceInUptoRow : OpenClaim := { program := "ytabjdjkkpbkpfaa", sum := "832b8d263f594f25169a2ad06212813a16e9902ebd5fd0add686b5743898190b", func := "millpond/millpondlaw18.SpaceIn", spec := "spaceIn", unfollowed := true, recurses := true, apart := false, narrowed := true }
def SpaceInUptoSaid : Prop := spaceInUptoRow.holds Try.pinned (OpenSpec.upto spaceInSpec)

/-- 'millpondlaw18.SpaceApart', WHERE WHAT IT READS IS OF BULK AT MOST 1048576: true; the input reads as it did. -/
def spaceApartUptoRow : OpenClaim := { program := "ytabjdjkkpbkpfaa", sum := "832b8d263f594f25169a2ad06212813a16e9902ebd5fd0add686b5743898190b", func := "millpond/millpondlaw18.SpaceApart", spec := "spaceApart", unfollowed := true, recurses := true, apart := false, narrowed := true }
def SpaceApartUptoSaid : Prop := spaceApartUptoRow.holds Try.pinned (OpenSpec.upto spaceApartSpec)

/-- 'millpondlaw18.SpaceTouch', WHERE WHAT IT READS IS OF BULK AT MOST 1048576: true; the input reads as it did. -/
def spaceTouchUptoRow : OpenClaim := { program := "ytabjdjkkpbkpfaa", sum := "832b8d263f594f25169a2ad06212813a16e9902ebd5fd0add686b5743898190b", func := "millpond/millpondlaw18.SpaceTouch", spec := "spaceTouch", unfollowed := true, recurses := true, apart := false, narrowed := true }
def SpaceTouchUptoSaid : Prop := spaceTouchUptoRow.holds Try.pinned (OpenSpec.upto spaceTouchSpec)

/-- 'millpondlaw18.SpaceMaps', WHERE WHAT IT READS IS OF BULK AT MOST 1048576: true; the input reads as it did. -/
def spaceMapsUptoRow : OpenClaim := { program := "ytabjdjkkpbkpfaa", sum := "832b8d263f594f25169a2ad06212813a16e9902ebd5fd0add686b5743898190b", func := "millpond/millpondlaw18.SpaceMaps", spec := "spaceMaps", unfollowed := true, recurses := true, apart := false, narrowed := true }
def SpaceMapsUptoSaid : Prop := spaceMapsUptoRow.holds Try.pinned (OpenSpec.upto spaceMapsSpec)

/-- 'millpondlaw18.SpaceDoes', WHERE WHAT IT READS IS OF BULK AT MOST 1048576: true; the input reads as it did. -/
def spaceDoesUptoRow : OpenClaim := { program := "ytabjdjkkpbkpfaa", sum := "832b8d263f594f25169a2ad06212813a16e9902ebd5fd0add686b5743898190b", func := "millpond/millpondlaw18.SpaceDoes", spec := "spaceDoes", unfollowed := true, recurses := true, apart := false, narrowed := true }
def SpaceDoesUptoSaid : Prop := spaceDoesUptoRow.holds Try.pinned (OpenSpec.upto spaceDoesSpec)

/-- 'millpondlaw18.SpaceIds', WHERE WHAT IT READS IS OF BULK AT MOST 1048576: true; the input reads as it did. -/
def spaceIdsUptoRow : OpenClaim := { program := "ytabjdjkkpbkpfaa", sum := "832b8d263f594f25169a2ad06212813a16e9902ebd5fd0add686b5743898190b", func := "millpond/millpondlaw18.SpaceIds", spec := "spaceIds", unfollowed := true, recurses := true, apart := false, narrowed := true }
def SpaceIdsUptoSaid : Prop := spaceIdsUptoRow.holds Try.pinned (OpenSpec.upto spaceIdsSpec)

end Rows
end Go.Proofs.Ytabjdjkkpbkpfaa
