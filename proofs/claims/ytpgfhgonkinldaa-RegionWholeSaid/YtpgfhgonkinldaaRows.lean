/-
  No cell of these rows narrows 'for every input' (looked for: loops, veiled, ifaces, maps, wideKeys, modest, calm, conditions, laid).
  DERIVED. THE GIVEN ROWS OF THIS SEAT. 7 by the template 'for every input the law returns true; each argument reads behind the call as it read before'; 0 by the template 'total and deterministic' (their statements: YtpgfhgonkinldaaTotals.lean).
  GIVEN WITH THE SEED: the statements are not yours to turn. If you find one false, say at which input.
  Laid BY PROGRAM, IN A SANDBOX (cutbox-rows.mjs): the forced cells as the released guide's own fill.sh prints them over the translation ed8d76ca1df698e1… (all of the seat's roots in one cut). By AI agents, Wed Nov 11 2026. No macro, syntax, notation, axiom, sorry.
-/
import Derived.Test.YtpgfhgonkinldaaChecked
import GoSem.Claim
import GoSem.ClaimJoined
import GoSem.ClaimMapViews
import Derived.JoinedTies
import Derived.KernelRfl
namespace Go.Proofs.Ytpgfhgonkinldaa
/- THE CELL 'sum', in the pinned program and in every row, IS THE sha256 OF THE DUMP (.gsa) THAT YtpgfhgonkinldaaProg.lean LOADS. Nothing in Lean hashes anything: it is a label: what it is worth is what the hold of that sum in a sandbox is worth. -/
noncomputable def Try.pinned : Pinned := { name := "ytpgfhgonkinldaa", sum := "ed8d76ca1df698e1aed507d407730f6d79b210fcf9c4c6393435ed66321528c4", checked := Try.checked }
namespace Rows
def none {H : Type} : Left H := { results := [], args := [] }

/-- 'millpondlaw07.RegionAdds': WHATEVER THE INPUT: true; the input reads as it did. -/
def regionAddsSpec : ChangeSpec := { name := "regionAdds", fn := fun _ => fun
  | [d1, d2, d3] => { results := [.lit (.bool true)], args := [d1, d2, d3] }
  | _ => none }
def regionAddsRow : OpenClaim := { program := "ytpgfhgonkinldaa", sum := "ed8d76ca1df698e1aed507d407730f6d79b210fcf9c4c6393435ed66321528c4", func := "millpond/millpondlaw07.RegionAdds", spec := "regionAdds", unfollowed := true, recurses := true, apart := false }
def RegionAddsSaid : Prop := regionAddsRow.holds Try.pinned (OpenSpec.ofChange regionAddsSpec)

/-- ITS FALSE NEIGHBOUR: 'it returns false'. Refute it at one input. -/
def regionAddsWrong : ChangeSpec := { name := "regionAdds", fn := fun _ => fun
  | [d1, d2, d3] => { results := [.lit (.bool false)], args := [d1, d2, d3] }
  | _ => none }
def RegionAddsWrongFalsely : Prop := regionAddsRow.holds Try.pinned (OpenSpec.ofChange regionAddsWrong)

/-- 'millpondlaw07.RegionCuts': WHATEVER THE INPUT: true; the input reads as it did. -/
def regionCutsSpec : ChangeSpec := { name := "regionCuts", fn := fun _ => fun
  | [d1, d2, d3] => { results := [.lit (.bool true)], args := [d1, d2, d3] }
  | _ => none }
def regionCutsRow : OpenClaim := { program := "ytpgfhgonkinldaa", sum := "ed8d76ca1df698e1aed507d407730f6d79b210fcf9c4c6393435ed66321528c4", func := "millpond/millpondlaw07.RegionCuts", spec := "regionCuts", unfollowed := true, recurses := true, apart := false }
def RegionCutsSaid : Prop := regionCutsRow.holds Try.pinned (OpenSpec.ofChange regionCutsSpec)

/-- ITS FALSE NEIGHBOUR: 'it returns false'. Refute it at one input. -/
def regionCutsWrong : ChangeSpec := { name := "regionCuts", fn := fun _ => fun
  | [d1, d2, d3] => { results := [.lit (.bool false)], args := [d1, d2, d3] }
  | _ => none }
def RegionCutsWrongFalsely : Prop := regionCutsRow.holds Try.pinned (OpenSpec.ofChange regionCutsWrong)

/-- 'millpondlaw07.RegionLeft': WHATEVER THE INPUT: true; the input reads as it did. -/
def regionLeftSpec : ChangeSpec := { name := "regionLeft", fn := fun _ => fun
  | [d1, d2, d3, d4] => { results := [.lit (.bool true)], args := [d1, d2, d3, d4] }
  | _ => none }
def regionLeftRow : OpenClaim := { program := "ytpgfhgonkinldaa", sum := "ed8d76ca1df698e1aed507d407730f6d79b210fcf9c4c6393435ed66321528c4", func := "millpond/millpondlaw07.RegionLeft", spec := "regionLeft", unfollowed := true, recurses := true, apart := false }
def RegionLeftSaid : Prop := regionLeftRow.holds Try.pinned (OpenSpec.ofChange regionLeftSpec)

/-- ITS FALSE NEIGHBOUR: 'it returns false'. Refute it at one input. -/
def regionLeftWrong : ChangeSpec := { name := "regionLeft", fn := fun _ => fun
  | [d1, d2, d3, d4] => { results := [.lit (.bool false)], args := [d1, d2, d3, d4] }
  | _ => none }
def RegionLeftWrongFalsely : Prop := regionLeftRow.holds Try.pinned (OpenSpec.ofChange regionLeftWrong)

/-- 'millpondlaw07.RegionHas': WHATEVER THE INPUT: true; the input reads as it did. -/
def regionHasSpec : ChangeSpec := { name := "regionHas", fn := fun _ => fun
  | [d1, d2, d3] => { results := [.lit (.bool true)], args := [d1, d2, d3] }
  | _ => none }
def regionHasRow : OpenClaim := { program := "ytpgfhgonkinldaa", sum := "ed8d76ca1df698e1aed507d407730f6d79b210fcf9c4c6393435ed66321528c4", func := "millpond/millpondlaw07.RegionHas", spec := "regionHas", unfollowed := true, recurses := true, apart := false }
def RegionHasSaid : Prop := regionHasRow.holds Try.pinned (OpenSpec.ofChange regionHasSpec)

/-- ITS FALSE NEIGHBOUR: 'it returns false'. Refute it at one input. -/
def regionHasWrong : ChangeSpec := { name := "regionHas", fn := fun _ => fun
  | [d1, d2, d3] => { results := [.lit (.bool false)], args := [d1, d2, d3] }
  | _ => none }
def RegionHasWrongFalsely : Prop := regionHasRow.holds Try.pinned (OpenSpec.ofChange regionHasWrong)

/-- 'millpondlaw07.RegionPieces': WHATEVER THE INPUT: true; the input reads as it did. -/
def regionPiecesSpec : ChangeSpec := { name := "regionPieces", fn := fun _ => fun
  | [d1, d2, d3, d4] => { results := [.lit (.bool true)], args := [d1, d2, d3, d4] }
  | _ => none }
def regionPiecesRow : OpenClaim := { program := "ytpgfhgonkinldaa", sum := "ed8d76ca1df698e1aed507d407730f6d79b210fcf9c4c6393435ed66321528c4", func := "millpond/millpondlaw07.RegionPieces", spec := "regionPieces", unfollowed := true, recurses := true, apart := false }
def RegionPiecesSaid : Prop := regionPiecesRow.holds Try.pinned (OpenSpec.ofChange regionPiecesSpec)

/-- ITS FALSE NEIGHBOUR: 'it returns false'. Refute it at one input. -/
def regionPiecesWrong : ChangeSpec := { name := "regionPieces", fn := fun _ => fun
  | [d1, d2, d3, d4] => { results := [.lit (.bool false)], args := [d1, d2, d3, d4] }
  | _ => none }
def RegionPiecesWrongFalsely : Prop := regionPiecesRow.holds Try.pinned (OpenSpec.ofChange regionPiecesWrong)

/-- 'millpondlaw07.RegionOrder': WHATEVER THE INPUT: true; the input reads as it did. -/
def regionOrderSpec : ChangeSpec := { name := "regionOrder", fn := fun _ => fun
  | [d1, d2, d3] => { results := [.lit (.bool true)], args := [d1, d2, d3] }
  | _ => none }
def regionOrderRow : OpenClaim := { program := "ytpgfhgonkinldaa", sum := "ed8d76ca1df698e1aed507d407730f6d79b210fcf9c4c6393435ed66321528c4", func := "millpond/millpondlaw07.RegionOrder", spec := "regionOrder", unfollowed := true, recurses := true, apart := false }
def RegionOrderSaid : Prop := regionOrderRow.holds Try.pinned (OpenSpec.ofChange regionOrderSpec)

/-- ITS FALSE NEIGHBOUR: 'it returns false'. Refute it at one input. -/
def regionOrderWrong : ChangeSpec := { name := "regionOrder", fn := fun _ => fun
  | [d1, d2, d3] => { results := [.lit (.bool false)], args := [d1, d2, d3] }
  | _ => none }
def RegionOrderWrongFalsely : Prop := regionOrderRow.holds Try.pinned (OpenSpec.ofChange regionOrderWrong)

/-- 'millpondlaw07.RegionWhole': WHATEVER THE INPUT: true; the input reads as it did. -/
def regionWholeSpec : ChangeSpec := { name := "regionWhole", fn := fun _ => fun
  | [d] => { results := [.lit (.bool true)], args := [d] }
  | _ => none }
def regionWholeRow : OpenClaim := { program := "ytpgfhgonkinldaa", sum := "ed8d76ca1df698e1aed507d407730f6d79b210fcf9c4c6393435ed66321528c4", func := "millpond/millpondlaw07.RegionWhole", spec := "regionWhole", unfollowed := true, recurses := true, apart := false }
def RegionWholeSaid : Prop := regionWholeRow.holds Try.pinned (OpenSpec.ofChange regionWholeSpec)

/-- ITS FALSE NEIGHBOUR: 'it returns false'. Refute it at one input. -/
def regionWholeWrong : ChangeSpec := { name := "regionWhole", fn := fun _ => fun
  | [d] => { results := [.lit (.bool false)], args := [d] }
  | _ => none }
def RegionWholeWrongFalsely : Prop := regionWholeRow.holds Try.pinned (OpenSpec.ofChange regionWholeWrong)

/- THE SECOND FORM. 'bulk': how many values and letters a reading holds, each counted each time it is reached (what is shared counts as often as it is met; a slice's spare places count too). A statement '..UptoSaid' is the law's where the arguments, and the package variables that the reading takes, are together of bulk at most 1048576: NARROWER than '..Said'. Prove '..Said' where nothing that the law and all that it calls make is longer than what came in: it says more and counts as full. Else prove '..UptoSaid'. A law counts once. -/
mutual
def uptoBulk {H : Type} : DataW H → Nat
  | .lit (.string bytes) => bytes.length + 1
  | .lit _ => 1
  | .nil => 1
  | .ptr d => uptoBulk d + 1
  | .slice elems spare => uptoBulkAll elems + uptoBulkAll spare + 1
  | .agg parts => uptoBulkAll parts + 1
  | .iface _ d => uptoBulk d + 1
  | .map entries => uptoBulkEntries entries + 1
  | .held _ => 1
def uptoBulkAll {H : Type} : List (DataW H) → Nat
  | [] => 0
  | d :: r => uptoBulk d + uptoBulkAll r
def uptoBulkEntries {H : Type} : List (Lit × DataW H) → Nat
  | [] => 0
  | x :: r => uptoBulkEntry x + uptoBulkEntries r
def uptoBulkEntry {H : Type} : Lit × DataW H → Nat
  | (.string bytes, d) => bytes.length + uptoBulk d + 1
  | (_, d) => uptoBulk d + 1
 end
def uptoSmall : (H : Type) → List (DataW H) → Bool := fun _ ds => decide (uptoBulkAll ds ≤ 1048576)
def OpenSpec.upto (s : _root_.Go.ChangeSpec) : _root_.Go.OpenSpec := { _root_.Go.OpenSpec.ofChange s with cond := some uptoSmall }

/-- 'millpondlaw07.RegionAdds', WHERE WHAT IT READS IS OF BULK AT MOST 1048576: true; the input reads as it did. -/
def regionAddsUptoRow : OpenClaim := { program := "ytpgfhgonkinldaa", sum := "ed8d76ca1df698e1aed507d407730f6d79b210fcf9c4c6393435ed66321528c4", func := "millpond/millpondlaw07.RegionAdds", spec := "regionAdds", unfollowed := true, recurses := true, apart := false, narrowed := true }
def RegionAddsUptoSaid : Prop := regionAddsUptoRow.holds Try.pinned (OpenSpec.upto regionAddsSpec)

/-- 'millpondlaw07.RegionCuts', WHERE WHAT IT READS IS OF BULK AT MOST 1048576: true; the input reads as it did. -/
def regionCutsUptoRow : OpenClaim := { program := "ytpgfhgonkinldaa", sum := "ed8d76ca1df698e1aed507d407730f6d79b210fcf9c4c6393435ed66321528c4", func := "millpond/millpondlaw07.RegionCuts", spec := "regionCuts", unfollowed := true, recurses := true, apart := false, narrowed := true }
def RegionCutsUptoSaid : Prop := regionCutsUptoRow.holds Try.pinned (OpenSpec.upto regionCutsSpec)

/-- 'millpondlaw07.RegionLeft', WHERE WHAT IT READS IS OF BULK AT MOST 1048576: true; the input reads as it did. -/
def regionLeftUptoRow : OpenClaim := { program := "ytpgfhgonkinldaa", sum := "ed8d76ca1df698e1aed507d407730f6d79b210fcf9c4c6393435ed66321528c4", func := "millpond/millpondlaw07.RegionLeft", spec := "regionLeft", unfollowed := true, recurses := true, apart := false, narrowed := true }
def RegionLeftUptoSaid : Prop := regionLeftUptoRow.holds Try.pinned (OpenSpec.upto regionLeftSpec)

/-- 'millpondlaw07.RegionHas', WHERE WHAT IT READS IS OF BULK AT MOST 1048576: true; the input reads as it did. -/
def regionHasUptoRow : OpenClaim := { program := "ytpgfhgonkinldaa", sum := "ed8d76ca1df698e1aed507d407730f6d79b210fcf9c4c6393435ed66321528c4", func := "millpond/millpondlaw07.RegionHas", spec := "regionHas", unfollowed := true, recurses := true, apart := false, narrowed := true }
def RegionHasUptoSaid : Prop := regionHasUptoRow.holds Try.pinned (OpenSpec.upto regionHasSpec)

/-- 'millpondlaw07.RegionPieces', WHERE WHAT IT READS IS OF BULK AT MOST 1048576: true; the input reads as it did. -/
def regionPiecesUptoRow : OpenClaim := { program := "ytpgfhgonkinldaa", sum := "ed8d76ca1df698e1aed507d407730f6d79b210fcf9c4c6393435ed66321528c4", func := "millpond/millpondlaw07.RegionPieces", spec := "regionPieces", unfollowed := true, recurses := true, apart := false, narrowed := true }
def RegionPiecesUptoSaid : Prop := regionPiecesUptoRow.holds Try.pinned (OpenSpec.upto regionPiecesSpec)

/-- 'millpondlaw07.RegionOrder', WHERE WHAT IT READS IS OF BULK AT MOST 1048576: true; the input reads as it did. -/
def regionOrderUptoRow : OpenClaim := { program := "ytpgfhgonkinldaa", sum := "ed8d76ca1df698e1aed507d407730f6d79b210fcf9c4c6393435ed66321528c4", func := "millpond/millpondlaw07.RegionOrder", spec := "regionOrder", unfollowed := true, recurses := true, apart := false, narrowed := true }
def RegionOrderUptoSaid : Prop := regionOrderUptoRow.holds Try.pinned (OpenSpec.upto regionOrderSpec)

/-- 'millpondlaw07.RegionWhole', WHERE WHAT IT READS IS OF BULK AT MOST 1048576: true; the input reads as it did. -/
def regionWholeUptoRow : OpenClaim := { program := "ytpgfhgonkinldaa", sum := "ed8d76ca1df698e1aed507d407730f6d79b210fcf9c4c6393435ed66321528c4", func := "millpond/millpondlaw07.RegionWhole", spec := "regionWhole", unfollowed := true, recurses := true, apart := false, narrowed := true }
def RegionWholeUptoSaid : Prop := regionWholeUptoRow.holds Try.pinned (OpenSpec.upto regionWholeSpec)

end Rows
end Go.Proofs.Ytpgfhgonkinldaa
