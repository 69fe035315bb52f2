/-
  No cell of these rows narrows 'for every input' (looked for: loops, veiled, ifaces, maps, wideKeys, modest, calm, conditions, laid).
  DERIVED. THE GIVEN ROWS OF THIS SEAT. 7 by the template 'for every input the law returns true; each argument reads behind the call as it read before'; 0 by the template 'total and deterministic' (their statements: YtbcdplhihkacpaaTotals.lean).
  GIVEN WITH THE SEED: the statements are not yours to turn. If you find one false, say at which input.
  Laid BY PROGRAM, IN A SANDBOX (cutbox-rows.mjs): the forced cells as the released guide's own fill.sh prints them over the translation 320b90bdc081400a… (all of the seat's roots in one cut). By AI agents, Wed Nov 11 2026. No macro, syntax, notation, axiom, sorry.
-/
import Derived.Test.YtbcdplhihkacpaaChecked
import GoSem.Claim
import GoSem.ClaimJoined
import GoSem.ClaimMapViews
import Derived.JoinedTies
import Derived.KernelRfl
namespace Go.Proofs.Ytbcdplhihkacpaa
/- THE CELL 'sum', in the pinned program and in every row, IS THE sha256 OF THE DUMP (.gsa) THAT YtbcdplhihkacpaaProg.lean LOADS. Nothing in Lean hashes anything: it is a label: what it is worth is what the hold of that sum in a sandbox is worth. -/
noncomputable def Try.pinned : Pinned := { name := "ytbcdplhihkacpaa", sum := "320b90bdc081400a978d10a29808932e3f3ebfea370106919195c0465da67b4d", checked := Try.checked }
namespace Rows
def none {H : Type} : Left H := { results := [], args := [] }

/-- 'millpondlaw05.RadixWalks': WHATEVER THE INPUT: true; the input reads as it did. -/
def radixWalksSpec : ChangeSpec := { name := "radixWalks", fn := fun _ => fun
  | [d1, d2, d3, d4] => { results := [.lit (.bool true)], args := [d1, d2, d3, d4] }
  | _ => none }
def radixWalksRow : OpenClaim := { program := "ytbcdplhihkacpaa", sum := "320b90bdc081400a978d10a29808932e3f3ebfea370106919195c0465da67b4d", func := "millpond/millpondlaw05.RadixWalks", spec := "radixWalks", unfollowed := true, recurses := true, apart := false }
def RadixWalksSaid : Prop := radixWalksRow.holds Try.pinned (OpenSpec.ofChange radixWalksSpec)

/-- ITS FALSE NEIGHBOUR: 'it returns false'. Refute it at one input. -/
def radixWalksWrong : ChangeSpec := { name := "radixWalks", fn := fun _ => fun
  | [d1, d2, d3, d4] => { results := [.lit (.bool false)], args := [d1, d2, d3, d4] }
  | _ => none }
def RadixWalksWrongFalsely : Prop := radixWalksRow.holds Try.pinned (OpenSpec.ofChange radixWalksWrong)

/-- 'millpondlaw05.RadixPaths': WHATEVER THE INPUT: true; the input reads as it did. -/
def radixPathsSpec : ChangeSpec := { name := "radixPaths", fn := fun _ => fun
  | [d] => { results := [.lit (.bool true)], args := [d] }
  | _ => none }
def radixPathsRow : OpenClaim := { program := "ytbcdplhihkacpaa", sum := "320b90bdc081400a978d10a29808932e3f3ebfea370106919195c0465da67b4d", func := "millpond/millpondlaw05.RadixPaths", spec := "radixPaths", unfollowed := true, recurses := true, apart := false }
def RadixPathsSaid : Prop := radixPathsRow.holds Try.pinned (OpenSpec.ofChange radixPathsSpec)

/-- ITS FALSE NEIGHBOUR: 'it returns false'. Refute it at one input. -/
def radixPathsWrong : ChangeSpec := { name := "radixPaths", fn := fun _ => fun
  | [d] => { results := [.lit (.bool false)], args := [d] }
  | _ => none }
def RadixPathsWrongFalsely : Prop := radixPathsRow.holds Try.pinned (OpenSpec.ofChange radixPathsWrong)

/-- 'millpondlaw05.RadixSame': WHATEVER THE INPUT: true; the input reads as it did. -/
def radixSameSpec : ChangeSpec := { name := "radixSame", fn := fun _ => fun
  | [d] => { results := [.lit (.bool true)], args := [d] }
  | _ => none }
def radixSameRow : OpenClaim := { program := "ytbcdplhihkacpaa", sum := "320b90bdc081400a978d10a29808932e3f3ebfea370106919195c0465da67b4d", func := "millpond/millpondlaw05.RadixSame", spec := "radixSame", unfollowed := true, recurses := true, apart := false }
def RadixSameSaid : Prop := radixSameRow.holds Try.pinned (OpenSpec.ofChange radixSameSpec)

/-- ITS FALSE NEIGHBOUR: 'it returns false'. Refute it at one input. -/
def radixSameWrong : ChangeSpec := { name := "radixSame", fn := fun _ => fun
  | [d] => { results := [.lit (.bool false)], args := [d] }
  | _ => none }
def RadixSameWrongFalsely : Prop := radixSameRow.holds Try.pinned (OpenSpec.ofChange radixSameWrong)

/-- 'millpondlaw05.RadixDoes': WHATEVER THE INPUT: true; the input reads as it did. -/
def radixDoesSpec : ChangeSpec := { name := "radixDoes", fn := fun _ => fun
  | [d1, d2, d3, d4] => { results := [.lit (.bool true)], args := [d1, d2, d3, d4] }
  | _ => none }
def radixDoesRow : OpenClaim := { program := "ytbcdplhihkacpaa", sum := "320b90bdc081400a978d10a29808932e3f3ebfea370106919195c0465da67b4d", func := "millpond/millpondlaw05.RadixDoes", spec := "radixDoes", unfollowed := true, recurses := true, apart := false }
def RadixDoesSaid : Prop := radixDoesRow.holds Try.pinned (OpenSpec.ofChange radixDoesSpec)

/-- ITS FALSE NEIGHBOUR: 'it returns false'. Refute it at one input. -/
def radixDoesWrong : ChangeSpec := { name := "radixDoes", fn := fun _ => fun
  | [d1, d2, d3, d4] => { results := [.lit (.bool false)], args := [d1, d2, d3, d4] }
  | _ => none }
def RadixDoesWrongFalsely : Prop := radixDoesRow.holds Try.pinned (OpenSpec.ofChange radixDoesWrong)

/-- 'millpondlaw05.RadixLast': WHATEVER THE INPUT: true; the input reads as it did. -/
def radixLastSpec : ChangeSpec := { name := "radixLast", fn := fun _ => fun
  | [d1, d2, d3, d4] => { results := [.lit (.bool true)], args := [d1, d2, d3, d4] }
  | _ => none }
def radixLastRow : OpenClaim := { program := "ytbcdplhihkacpaa", sum := "320b90bdc081400a978d10a29808932e3f3ebfea370106919195c0465da67b4d", func := "millpond/millpondlaw05.RadixLast", spec := "radixLast", unfollowed := true, recurses := true, apart := false }
def RadixLastSaid : Prop := radixLastRow.holds Try.pinned (OpenSpec.ofChange radixLastSpec)

/-- ITS FALSE NEIGHBOUR: 'it returns false'. Refute it at one input. -/
def radixLastWrong : ChangeSpec := { name := "radixLast", fn := fun _ => fun
  | [d1, d2, d3, d4] => { results := [.lit (.bool false)], args := [d1, d2, d3, d4] }
  | _ => none }
def RadixLastWrongFalsely : Prop := radixLastRow.holds Try.pinned (OpenSpec.ofChange radixLastWrong)

/-- 'millpondlaw05.RadixNodes': WHATEVER THE INPUT: true; the input reads as it did. -/
def radixNodesSpec : ChangeSpec := { name := "radixNodes", fn := fun _ => fun
  | [d] => { results := [.lit (.bool true)], args := [d] }
  | _ => none }
def radixNodesRow : OpenClaim := { program := "ytbcdplhihkacpaa", sum := "320b90bdc081400a978d10a29808932e3f3ebfea370106919195c0465da67b4d", func := "millpond/millpondlaw05.RadixNodes", spec := "radixNodes", unfollowed := true, recurses := true, apart := false }
def RadixNodesSaid : Prop := radixNodesRow.holds Try.pinned (OpenSpec.ofChange radixNodesSpec)

/-- ITS FALSE NEIGHBOUR: 'it returns false'. Refute it at one input. -/
def radixNodesWrong : ChangeSpec := { name := "radixNodes", fn := fun _ => fun
  | [d] => { results := [.lit (.bool false)], args := [d] }
  | _ => none }
def RadixNodesWrongFalsely : Prop := radixNodesRow.holds Try.pinned (OpenSpec.ofChange radixNodesWrong)

/-- 'millpondlaw05.RadixClone': WHATEVER THE INPUT: true; the input reads as it did. -/
def radixCloneSpec : ChangeSpec := { name := "radixClone", fn := fun _ => fun
  | [d1, d2] => { results := [.lit (.bool true)], args := [d1, d2] }
  | _ => none }
def radixCloneRow : OpenClaim := { program := "ytbcdplhihkacpaa", sum := "320b90bdc081400a978d10a29808932e3f3ebfea370106919195c0465da67b4d", func := "millpond/millpondlaw05.RadixClone", spec := "radixClone", unfollowed := true, recurses := true, apart := false }
def RadixCloneSaid : Prop := radixCloneRow.holds Try.pinned (OpenSpec.ofChange radixCloneSpec)

/-- ITS FALSE NEIGHBOUR: 'it returns false'. Refute it at one input. -/
def radixCloneWrong : ChangeSpec := { name := "radixClone", fn := fun _ => fun
  | [d1, d2] => { results := [.lit (.bool false)], args := [d1, d2] }
  | _ => none }
def RadixCloneWrongFalsely : Prop := radixCloneRow.holds Try.pinned (OpenSpec.ofChange radixCloneWrong)

/- THE SECOND FORM. 'bulk': how many values and letters a reading holds, each counted each time it is reached (what is shared counts as often as it is met; a slice's spare places count too). A statement '..UptoSaid' is the law's where the arguments, and the package variables that the reading takes, are together of bulk at most 1048576: NARROWER than '..Said'. Prove '..Said' where nothing that the law and all that it calls make is longer than what came in: it says more and counts as full. Else prove '..UptoSaid'. A law counts once. -/
mutual
def uptoBulk {H : Type} : DataW H → Nat
  | .lit (.string bytes) => bytes.length + 1
  | .lit _ => 1
  | .nil => 1
  | .ptr d => uptoBulk d + 1
  | .slice elems spare => uptoBulkAll elems + uptoBulkAll spare + 1
  | .agg parts => uptoBulkAll parts + 1
  | .iface _ d => uptoBulk d + 1
  | .map entries => uptoBulkEntries entries + 1
  | .held _ => 1
def uptoBulkAll {H : Type} : List (DataW H) → Nat
  | [] => 0
  | d :: r => uptoBulk d + uptoBulkAll r
def uptoBulkEntries {H : Type} : List (Lit × DataW H) → Nat
  | [] => 0
  | x :: r => uptoBulkEntry x + uptoBulkEntries r
def uptoBulkEntry {H : Type} : Lit × DataW H → Nat
  | (.string bytes, d) => bytes.length + uptoBulk d + 1
  | (_, d) => uptoBulk d + 1
 end
def uptoSmall : (H : Type) → List (DataW H) → Bool := fun _ ds => decide (uptoBulkAll ds ≤ 1048576)
def OpenSpec.upto (s : _root_.Go.ChangeSpec) : _root_.Go.OpenSpec := { _root_.Go.OpenSpec.ofChange s with cond := some uptoSmall }

/-- 'millpondlaw05.RadixWalks', WHERE WHAT IT READS IS OF BULK AT MOST 1048576: true; the input reads as it did. -/
def radixWalksUptoRow : OpenClaim := { program := "ytbcdplhihkacpaa", sum := "320b90bdc081400a978d10a29808932e3f3ebfea370106919195c0465da67b4d", func := "millpond/millpondlaw05.RadixWalks", spec := "radixWalks", unfollowed := true, recurses := true, apart := false, narrowed := true }
def RadixWalksUptoSaid : Prop := radixWalksUptoRow.holds Try.pinned (OpenSpec.upto radixWalksSpec)

/-- 'millpondlaw05.RadixPaths', WHERE WHAT IT READS IS OF BULK AT MOST 1048576: true; the input reads as it did. -/
def radixPathsUptoRow : OpenClaim := { program := "ytbcdplhihkacpaa", sum := "320b90bdc081400a978d10a29808932e3f3ebfea370106919195c0465da67b4d", func := "millpond/millpondlaw05.RadixPaths", spec := "radixPaths", unfollowed := true, recurses := true, apart := false, narrowed := true }
def RadixPathsUptoSaid : Prop := radixPathsUptoRow.holds Try.pinned (OpenSpec.upto radixPathsSpec)

/-- 'millpondlaw05.RadixSame', WHERE WHAT IT READS IS OF BULK AT MOST 1048576: true; the input reads as it did. -/
def radixSameUptoRow : OpenClaim := { program := "ytbcdplhihkacpaa", sum := "320b90bdc081400a978d10a29808932e3f3ebfea370106919195c0465da67b4d", func := "millpond/millpondlaw05.RadixSame", spec := "radixSame", unfollowed := true, recurses := true, apart := false, narrowed := true }
def RadixSameUptoSaid : Prop := radixSameUptoRow.holds Try.pinned (OpenSpec.upto radixSameSpec)

/-- 'millpondlaw05.RadixDoes', WHERE WHAT IT READS IS OF BULK AT MOST 1048576: true; the input reads as it did. -/
def radixDoesUptoRow : OpenClaim := { program := "ytbcdplhihkacpaa", sum := "320b90bdc081400a978d10a29808932e3f3ebfea370106919195c0465da67b4d", func := "millpond/millpondlaw05.RadixDoes", spec := "radixDoes", unfollowed := true, recurses := true, apart := false, narrowed := true }
def RadixDoesUptoSaid : Prop := radixDoesUptoRow.holds Try.pinned (OpenSpec.upto radixDoesSpec)

/-- 'millpondlaw05.RadixLast', WHERE WHAT IT READS IS OF BULK AT MOST 1048576: true; the input reads as it did. -/
def radixLastUptoRow : OpenClaim := { program := "ytbcdplhihkacpaa", sum := "320b90bdc081400a978d10a29808932e3f3ebfea370106919195c0465da67b4d", func := "millpond/millpondlaw05.RadixLast", spec := "radixLast", unfollowed := true, recurses := true, apart := false, narrowed := true }
def RadixLastUptoSaid : Prop := radixLastUptoRow.holds Try.pinned (OpenSpec.upto radixLastSpec)

/-- 'millpondlaw05.RadixNodes', WHERE WHAT IT READS IS OF BULK AT MOST 1048576: true; the input reads as it did. -/
def radixNodesUptoRow : OpenClaim := { program := "ytbcdplhihkacpaa", sum := "320b90bdc081400a978d10a29808932e3f3ebfea370106919195c0465da67b4d", func := "millpond/millpondlaw05.RadixNodes", spec := "radixNodes", unfollowed := true, recurses := true, apart := false, narrowed := true }
def RadixNodesUptoSaid : Prop := radixNodesUptoRow.holds Try.pinned (OpenSpec.upto radixNodesSpec)

/-- 'millpondlaw05.RadixClone', WHERE WHAT IT READS IS OF BULK AT MOST 1048576: true; the input reads as it did. -/
def radixCloneUptoRow : OpenClaim := { program := "ytbcdplhihkacpaa", sum := "320b90bdc081400a978d10a29808932e3f3ebfea370106919195c0465da67b4d", func := "millpond/millpondlaw05.RadixClone", spec := "radixClone", unfollowed := true, recurses := true, apart := false, narrowed := true }
def RadixCloneUptoSaid : Prop := radixCloneUptoRow.holds Try.pinned (OpenSpec.upto radixCloneSpec)

end Rows
end Go.Proofs.Ytbcdplhihkacpaa
