/-
  No cell of these rows narrows 'for every input' (looked for: loops, veiled, ifaces, maps, wideKeys, modest, calm, conditions, laid).
  DERIVED. THE GIVEN ROWS OF THIS SEAT. 6 by the template 'for every input the law returns true; each argument reads behind the call as it read before'; 0 by the template 'total and deterministic' (their statements: YthjllhaebanplaaTotals.lean).
  GIVEN WITH THE SEED: the statements are not yours to turn. If you find one false, say at which input.
  Laid BY PROGRAM, IN A SANDBOX (cutbox-rows.mjs): the forced cells as the released guide's own fill.sh prints them over the translation c92c42fbcd9b09a0… (all of the seat's roots in one cut). By AI agents, Wed Nov 11 2026. No macro, syntax, notation, axiom, sorry.
-/
import Derived.Test.YthjllhaebanplaaChecked
import GoSem.Claim
import GoSem.ClaimJoined
import GoSem.ClaimMapViews
import Derived.JoinedTies
import Derived.KernelRfl
namespace Go.Proofs.Ythjllhaebanplaa
/- THE CELL 'sum', in the pinned program and in every row, IS THE sha256 OF THE DUMP (.gsa) THAT YthjllhaebanplaaProg.lean LOADS. Nothing in Lean hashes anything: it is a label: what it is worth is what the hold of that sum in a sandbox is worth. -/
noncomputable def Try.pinned : Pinned := { name := "ythjllhaebanplaa", sum := "c92c42fbcd9b09a0b58778bb039a6ad5eae5b2721d80a31dfb232eeafa494663", checked := Try.checked }
namespace Rows
def none {H : Type} : Left H := { results := [], args := [] }

/-- 'millpondlaw15.ShareSplits': WHATEVER THE INPUT: true; the input reads as it did. -/
def shareSplitsSpec : ChangeSpec := { name := "shareSplits", fn := fun _ => fun
  | [d1, d2] => { results := [.lit (.bool true)], args := [d1, d2] }
  | _ => none }
def shareSplitsRow : OpenClaim := { program := "ythjllhaebanplaa", sum := "c92c42fbcd9b09a0b58778bb039a6ad5eae5b2721d80a31dfb232eeafa494663", func := "millpond/millpondlaw15.ShareSplits", spec := "shareSplits", unfollowed := true, recurses := true, named := ["math/bits.divideError", "math/bits.overflowError"], apart := false }
def ShareSplitsSaid : Prop := shareSplitsRow.holds Try.pinned (OpenSpec.ofChange shareSplitsSpec)

/-- ITS FALSE NEIGHBOUR: 'it returns false'. Refute it at one input. -/
def shareSplitsWrong : ChangeSpec := { name := "shareSplits", fn := fun _ => fun
  | [d1, d2] => { results := [.lit (.bool false)], args := [d1, d2] }
  | _ => none }
def ShareSplitsWrongFalsely : Prop := shareSplitsRow.holds Try.pinned (OpenSpec.ofChange shareSplitsWrong)

/-- 'millpondlaw15.ShareCaps': WHATEVER THE INPUT: true; the input reads as it did. -/
def shareCapsSpec : ChangeSpec := { name := "shareCaps", fn := fun _ => fun
  | [d1, d2] => { results := [.lit (.bool true)], args := [d1, d2] }
  | _ => none }
def shareCapsRow : OpenClaim := { program := "ythjllhaebanplaa", sum := "c92c42fbcd9b09a0b58778bb039a6ad5eae5b2721d80a31dfb232eeafa494663", func := "millpond/millpondlaw15.ShareCaps", spec := "shareCaps", unfollowed := true, recurses := true, named := ["math/bits.divideError", "math/bits.overflowError"], apart := false }
def ShareCapsSaid : Prop := shareCapsRow.holds Try.pinned (OpenSpec.ofChange shareCapsSpec)

/-- ITS FALSE NEIGHBOUR: 'it returns false'. Refute it at one input. -/
def shareCapsWrong : ChangeSpec := { name := "shareCaps", fn := fun _ => fun
  | [d1, d2] => { results := [.lit (.bool false)], args := [d1, d2] }
  | _ => none }
def ShareCapsWrongFalsely : Prop := shareCapsRow.holds Try.pinned (OpenSpec.ofChange shareCapsWrong)

/-- 'millpondlaw15.ShareAll': WHATEVER THE INPUT: true; the input reads as it did. -/
def shareAllSpec : ChangeSpec := { name := "shareAll", fn := fun _ => fun
  | [d1, d2] => { results := [.lit (.bool true)], args := [d1, d2] }
  | _ => none }
def shareAllRow : OpenClaim := { program := "ythjllhaebanplaa", sum := "c92c42fbcd9b09a0b58778bb039a6ad5eae5b2721d80a31dfb232eeafa494663", func := "millpond/millpondlaw15.ShareAll", spec := "shareAll", unfollowed := true, recurses := true, named := ["math/bits.divideError", "math/bits.overflowError"], apart := false }
def ShareAllSaid : Prop := shareAllRow.holds Try.pinned (OpenSpec.ofChange shareAllSpec)

/-- ITS FALSE NEIGHBOUR: 'it returns false'. Refute it at one input. -/
def shareAllWrong : ChangeSpec := { name := "shareAll", fn := fun _ => fun
  | [d1, d2] => { results := [.lit (.bool false)], args := [d1, d2] }
  | _ => none }
def ShareAllWrongFalsely : Prop := shareAllRow.holds Try.pinned (OpenSpec.ofChange shareAllWrong)

/-- 'millpondlaw15.ShareCapped': WHATEVER THE INPUT: true; the input reads as it did. -/
def shareCappedSpec : ChangeSpec := { name := "shareCapped", fn := fun _ => fun
  | [d1, d2] => { results := [.lit (.bool true)], args := [d1, d2] }
  | _ => none }
def shareCappedRow : OpenClaim := { program := "ythjllhaebanplaa", sum := "c92c42fbcd9b09a0b58778bb039a6ad5eae5b2721d80a31dfb232eeafa494663", func := "millpond/millpondlaw15.ShareCapped", spec := "shareCapped", unfollowed := true, recurses := true, named := ["math/bits.divideError", "math/bits.overflowError"], apart := false }
def ShareCappedSaid : Prop := shareCappedRow.holds Try.pinned (OpenSpec.ofChange shareCappedSpec)

/-- ITS FALSE NEIGHBOUR: 'it returns false'. Refute it at one input. -/
def shareCappedWrong : ChangeSpec := { name := "shareCapped", fn := fun _ => fun
  | [d1, d2] => { results := [.lit (.bool false)], args := [d1, d2] }
  | _ => none }
def ShareCappedWrongFalsely : Prop := shareCappedRow.holds Try.pinned (OpenSpec.ofChange shareCappedWrong)

/-- 'millpondlaw15.ShareOne': WHATEVER THE INPUT: true; the input reads as it did. -/
def shareOneSpec : ChangeSpec := { name := "shareOne", fn := fun _ => fun
  | [d1, d2, d3] => { results := [.lit (.bool true)], args := [d1, d2, d3] }
  | _ => none }
def shareOneRow : OpenClaim := { program := "ythjllhaebanplaa", sum := "c92c42fbcd9b09a0b58778bb039a6ad5eae5b2721d80a31dfb232eeafa494663", func := "millpond/millpondlaw15.ShareOne", spec := "shareOne", unfollowed := true, recurses := true, named := ["math/bits.divideError", "math/bits.overflowError"], apart := false }
def ShareOneSaid : Prop := shareOneRow.holds Try.pinned (OpenSpec.ofChange shareOneSpec)

/-- ITS FALSE NEIGHBOUR: 'it returns false'. Refute it at one input. -/
def shareOneWrong : ChangeSpec := { name := "shareOne", fn := fun _ => fun
  | [d1, d2, d3] => { results := [.lit (.bool false)], args := [d1, d2, d3] }
  | _ => none }
def ShareOneWrongFalsely : Prop := shareOneRow.holds Try.pinned (OpenSpec.ofChange shareOneWrong)

/-- 'millpondlaw15.ShareSums': WHATEVER THE INPUT: true; the input reads as it did. -/
def shareSumsSpec : ChangeSpec := { name := "shareSums", fn := fun _ => fun
  | [d1, d2] => { results := [.lit (.bool true)], args := [d1, d2] }
  | _ => none }
def shareSumsRow : OpenClaim := { program := "ythjllhaebanplaa", sum := "c92c42fbcd9b09a0b58778bb039a6ad5eae5b2721d80a31dfb232eeafa494663", func := "millpond/millpondlaw15.ShareSums", spec := "shareSums", unfollowed := true, recurses := true, named := ["math/bits.divideError", "math/bits.overflowError"], apart := false }
def ShareSumsSaid : Prop := shareSumsRow.holds Try.pinned (OpenSpec.ofChange shareSumsSpec)

/-- ITS FALSE NEIGHBOUR: 'it returns false'. Refute it at one input. -/
def shareSumsWrong : ChangeSpec := { name := "shareSums", fn := fun _ => fun
  | [d1, d2] => { results := [.lit (.bool false)], args := [d1, d2] }
  | _ => none }
def ShareSumsWrongFalsely : Prop := shareSumsRow.holds Try.pinned (OpenSpec.ofChange shareSumsWrong)

/- THE SECOND FORM. 'bulk': how many values and letters a reading holds, each counted each time it is reached (what is shared counts as often as it is met; a slice's spare places count too). A statement '..UptoSaid' is the law's where the arguments, and the package variables that the reading takes, are together of bulk at most 1048576: NARROWER than '..Said'. Prove '..Said' where nothing that the law and all that it calls make is longer than what came in: it says more and counts as full. Else prove '..UptoSaid'. A law counts once. -/
mutual
def uptoBulk {H : Type} : DataW H → Nat
  | .lit (.string bytes) => bytes.length + 1
  | .lit _ => 1
  | .nil => 1
  | .ptr d => uptoBulk d + 1
  | .slice elems spare => uptoBulkAll elems + uptoBulkAll spare + 1
  | .agg parts => uptoBulkAll parts + 1
  | .iface _ d => uptoBulk d + 1
  | .map entries => uptoBulkEntries entries + 1
  | .held _ => 1
def uptoBulkAll {H : Type} : List (DataW H) → Nat
  | [] => 0
  | d :: r => uptoBulk d + uptoBulkAll r
def uptoBulkEntries {H : Type} : List (Lit × DataW H) → Nat
  | [] => 0
  | x :: r => uptoBulkEntry x + uptoBulkEntries r
def uptoBulkEntry {H : Type} : Lit × DataW H → Nat
  | (.string bytes, d) => bytes.length + uptoBulk d + 1
  | (_, d) => uptoBulk d + 1
 end
def uptoSmall : (H : Type) → List (DataW H) → Bool := fun _ ds => decide (uptoBulkAll ds ≤ 1048576)
def OpenSpec.upto (s : _root_.Go.ChangeSpec) : _root_.Go.OpenSpec := { _root_.Go.OpenSpec.ofChange s with cond := some uptoSmall }

/-- 'millpondlaw15.ShareSplits', WHERE WHAT IT READS IS OF BULK AT MOST 1048576: true; the input reads as it did. -/
def shareSplitsUptoRow : OpenClaim := { program := "ythjllhaebanplaa", sum := "c92c42fbcd9b09a0b58778bb039a6ad5eae5b2721d80a31dfb232eeafa494663", func := "millpond/millpondlaw15.ShareSplits", spec := "shareSplits", unfollowed := true, recurses := true, named := ["math/bits.divideError", "math/bits.overflowError"], apart := false, narrowed := true }
def ShareSplitsUptoSaid : Prop := shareSplitsUptoRow.holds Try.pinned (OpenSpec.upto shareSplitsSpec)

/-- 'millpondlaw15.ShareCaps', WHERE WHAT IT READS IS OF BULK AT MOST 1048576: true; the input reads as it did. -/
def shareCapsUptoRow : OpenClaim := { program := "ythjllhaebanplaa", sum := "c92c42fbcd9b09a0b58778bb039a6ad5eae5b2721d80a31dfb232eeafa494663", func := "millpond/millpondlaw15.ShareCaps", spec := "shareCaps", unfollowed := true, recurses := true, named := ["math/bits.divideError", "math/bits.overflowError"], apart := false, narrowed := true }
def ShareCapsUptoSaid : Prop := shareCapsUptoRow.holds Try.pinned (OpenSpec.upto shareCapsSpec)

/-- 'millpondlaw15.ShareAll', WHERE WHAT IT READS IS OF BULK AT MOST 1048576: true; the input reads as it did. -/
def shareAllUptoRow : OpenClaim := { program := "ythjllhaebanplaa", sum := "c92c42fbcd9b09a0b58778bb039a6ad5eae5b2721d80a31dfb232eeafa494663", func := "millpond/millpondlaw15.ShareAll", spec := "shareAll", unfollowed := true, recurses := true, named := ["math/bits.divideError", "math/bits.overflowError"], apart := false, narrowed := true }
def ShareAllUptoSaid : Prop := shareAllUptoRow.holds Try.pinned (OpenSpec.upto shareAllSpec)

/-- 'millpondlaw15.ShareCapped', WHERE WHAT IT READS IS OF BULK AT MOST 1048576: true; the input reads as it did. -/
def shareCappedUptoRow : OpenClaim := { program := "ythjllhaebanplaa", sum := "c92c42fbcd9b09a0b58778bb039a6ad5eae5b2721d80a31dfb232eeafa494663", func := "millpond/millpondlaw15.ShareCapped", spec := "shareCapped", unfollowed := true, recurses := true, named := ["math/bits.divideError", "math/bits.overflowError"], apart := false, narrowed := true }
def ShareCappedUptoSaid : Prop := shareCappedUptoRow.holds Try.pinned (OpenSpec.upto shareCappedSpec)

/-- 'millpondlaw15.ShareOne', WHERE WHAT IT READS IS OF BULK AT MOST 1048576: true; the input reads as it did. -/
def shareOneUptoRow : OpenClaim := { program := "ythjllhaebanplaa", sum := "c92c42fbcd9b09a0b58778bb039a6ad5eae5b2721d80a31dfb232eeafa494663", func := "millpond/millpondlaw15.ShareOne", spec := "shareOne", unfollowed := true, recurses := true, named := ["math/bits.divideError", "math/bits.overflowError"], apart := false, narrowed := true }
def ShareOneUptoSaid : Prop := shareOneUptoRow.holds Try.pinned (OpenSpec.upto shareOneSpec)

/-- 'millpondlaw15.ShareSums', WHERE WHAT IT READS IS OF BULK AT MOST 1048576: true; the input reads as it did. -/
def shareSumsUptoRow : OpenClaim := { program := "ythjllhaebanplaa", sum := "c92c42fbcd9b09a0b58778bb039a6ad5eae5b2721d80a31dfb232eeafa494663", func := "millpond/millpondlaw15.ShareSums", spec := "shareSums", unfollowed := true, recurses := true, named := ["math/bits.divideError", "math/bits.overflowError"], apart := false, narrowed := true }
def ShareSumsUptoSaid : Prop := shareSumsUptoRow.holds Try.pinned (OpenSpec.upto shareSumsSpec)

end Rows
end Go.Proofs.Ythjllhaebanplaa
