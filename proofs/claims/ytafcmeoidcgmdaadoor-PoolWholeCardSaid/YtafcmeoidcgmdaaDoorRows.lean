/-
  NARROWER THAN 'FOR EVERY INPUT', by the rows' own cells (each row's printed sentence says how): PoolDoes: laid · PoolOnce: laid · PoolRuns: laid · PoolLeast: laid · PoolLevels: laid · PoolWhole: laid.
  DERIVED. THE GIVEN ROWS OF THIS SEAT. 6 by the template 'for every input the law returns true; each argument reads behind the call as it read before'; 0 by the template 'total and deterministic' (their statements: YtafcmeoidcgmdaaDoorTotals.lean).
  GIVEN WITH THE SEED: the statements are not yours to turn. If you find one false, say at which input.
  Laid BY PROGRAM, IN A SANDBOX (cutbox-rows.mjs): the forced cells as the released guide's own fill.sh prints them over the translation b82831327767774d… (all of the seat's roots in one cut). By AI agents, Wed Nov 11 2026. No macro, syntax, notation, axiom, sorry.
-/
import Derived.Test.YtafcmeoidcgmdaaDoorChecked
import GoSem.Claim
import GoSem.ClaimJoined
import GoSem.ClaimMapViews
import Derived.JoinedTies
import Derived.KernelRfl
namespace Go.Proofs.YtafcmeoidcgmdaaDoor
/- THE CELL 'sum', in the pinned program and in every row, IS THE sha256 OF THE DUMP (.gsa) THAT YtafcmeoidcgmdaaDoorProg.lean LOADS. Nothing in Lean hashes anything: it is a label: what it is worth is what the hold of that sum in a sandbox is worth. -/
noncomputable def Tryd.pinned : Pinned := { name := "ytafcmeoidcgmdaadoor", sum := "b82831327767774d80580b3a75eb24e692f3adfc96108495d9b8a072ad3dbdd8", checked := Tryd.checked }
namespace Rows
def none {H : Type} : Left H := { results := [], args := [] }

/- WHAT THE LISTED PACKAGE-LEVEL VARIABLES READ AS WHEN THE CALL BEGINS. Each datum BY PROGRAM (the guide's laid-datum.mjs) off the statement by which the dump's own 'gosem.cut.vars' lays the variable. In a bare row this is a premise. The card (YtafcmeoidcgmdaaDoorCards.lean) ties it to the program's text. -/
def laid_math_bits_deBruijn64tab {H : Type} : DataW H := .agg [.lit (.int .u8 0), .lit (.int .u8 1), .lit (.int .u8 56), .lit (.int .u8 2), .lit (.int .u8 57), .lit (.int .u8 49), .lit (.int .u8 28), .lit (.int .u8 3), .lit (.int .u8 61), .lit (.int .u8 58), .lit (.int .u8 42), .lit (.int .u8 50), .lit (.int .u8 38), .lit (.int .u8 29), .lit (.int .u8 17), .lit (.int .u8 4), .lit (.int .u8 62), .lit (.int .u8 47), .lit (.int .u8 59), .lit (.int .u8 36), .lit (.int .u8 45), .lit (.int .u8 43), .lit (.int .u8 51), .lit (.int .u8 22), .lit (.int .u8 53), .lit (.int .u8 39), .lit (.int .u8 33), .lit (.int .u8 30), .lit (.int .u8 24), .lit (.int .u8 18), .lit (.int .u8 12), .lit (.int .u8 5), .lit (.int .u8 63), .lit (.int .u8 55), .lit (.int .u8 48), .lit (.int .u8 27), .lit (.int .u8 60), .lit (.int .u8 41), .lit (.int .u8 37), .lit (.int .u8 16), .lit (.int .u8 46), .lit (.int .u8 35), .lit (.int .u8 44), .lit (.int .u8 21), .lit (.int .u8 52), .lit (.int .u8 32), .lit (.int .u8 23), .lit (.int .u8 11), .lit (.int .u8 54), .lit (.int .u8 26), .lit (.int .u8 40), .lit (.int .u8 15), .lit (.int .u8 34), .lit (.int .u8 20), .lit (.int .u8 31), .lit (.int .u8 10), .lit (.int .u8 25), .lit (.int .u8 14), .lit (.int .u8 19), .lit (.int .u8 9), .lit (.int .u8 13), .lit (.int .u8 8), .lit (.int .u8 7), .lit (.int .u8 6)]

/-- 'millpondlaw02.PoolDoes': WHATEVER THE INPUT: true; the input reads as it did. -/
def poolDoesSpec : ChangeSpec := { name := "poolDoes", fn := fun _ => fun
  | [d1, d2, d3, d4] => { results := [.lit (.bool true)], args := [d1, d2, d3, d4] }
  | _ => none }
def poolDoesRow : OpenClaim := { program := "ytafcmeoidcgmdaadoor", sum := "b82831327767774d80580b3a75eb24e692f3adfc96108495d9b8a072ad3dbdd8", func := "millpond/millpondlaw02.PoolDoes", spec := "poolDoes", named := ["math/bits.deBruijn64tab"], apart := false, laid := [("math/bits.deBruijn64tab", laid_math_bits_deBruijn64tab)] }
def PoolDoesSaid : Prop := poolDoesRow.holds Tryd.pinned (OpenSpec.ofChange poolDoesSpec)

/-- ITS FALSE NEIGHBOUR: 'it returns false'. Refute it at one input. -/
def poolDoesWrong : ChangeSpec := { name := "poolDoes", fn := fun _ => fun
  | [d1, d2, d3, d4] => { results := [.lit (.bool false)], args := [d1, d2, d3, d4] }
  | _ => none }
def PoolDoesWrongFalsely : Prop := poolDoesRow.holds Tryd.pinned (OpenSpec.ofChange poolDoesWrong)

/-- 'millpondlaw02.PoolOnce': WHATEVER THE INPUT: true; the input reads as it did. -/
def poolOnceSpec : ChangeSpec := { name := "poolOnce", fn := fun _ => fun
  | [d1, d2] => { results := [.lit (.bool true)], args := [d1, d2] }
  | _ => none }
def poolOnceRow : OpenClaim := { program := "ytafcmeoidcgmdaadoor", sum := "b82831327767774d80580b3a75eb24e692f3adfc96108495d9b8a072ad3dbdd8", func := "millpond/millpondlaw02.PoolOnce", spec := "poolOnce", named := ["math/bits.deBruijn64tab"], apart := false, laid := [("math/bits.deBruijn64tab", laid_math_bits_deBruijn64tab)] }
def PoolOnceSaid : Prop := poolOnceRow.holds Tryd.pinned (OpenSpec.ofChange poolOnceSpec)

/-- ITS FALSE NEIGHBOUR: 'it returns false'. Refute it at one input. -/
def poolOnceWrong : ChangeSpec := { name := "poolOnce", fn := fun _ => fun
  | [d1, d2] => { results := [.lit (.bool false)], args := [d1, d2] }
  | _ => none }
def PoolOnceWrongFalsely : Prop := poolOnceRow.holds Tryd.pinned (OpenSpec.ofChange poolOnceWrong)

/-- 'millpondlaw02.PoolRuns': WHATEVER THE INPUT: true; the input reads as it did. -/
def poolRunsSpec : ChangeSpec := { name := "poolRuns", fn := fun _ => fun
  | [d1, d2, d3] => { results := [.lit (.bool true)], args := [d1, d2, d3] }
  | _ => none }
def poolRunsRow : OpenClaim := { program := "ytafcmeoidcgmdaadoor", sum := "b82831327767774d80580b3a75eb24e692f3adfc96108495d9b8a072ad3dbdd8", func := "millpond/millpondlaw02.PoolRuns", spec := "poolRuns", named := ["math/bits.deBruijn64tab"], apart := false, laid := [("math/bits.deBruijn64tab", laid_math_bits_deBruijn64tab)] }
def PoolRunsSaid : Prop := poolRunsRow.holds Tryd.pinned (OpenSpec.ofChange poolRunsSpec)

/-- ITS FALSE NEIGHBOUR: 'it returns false'. Refute it at one input. -/
def poolRunsWrong : ChangeSpec := { name := "poolRuns", fn := fun _ => fun
  | [d1, d2, d3] => { results := [.lit (.bool false)], args := [d1, d2, d3] }
  | _ => none }
def PoolRunsWrongFalsely : Prop := poolRunsRow.holds Tryd.pinned (OpenSpec.ofChange poolRunsWrong)

/-- 'millpondlaw02.PoolLeast': WHATEVER THE INPUT: true; the input reads as it did. -/
def poolLeastSpec : ChangeSpec := { name := "poolLeast", fn := fun _ => fun
  | [d1, d2] => { results := [.lit (.bool true)], args := [d1, d2] }
  | _ => none }
def poolLeastRow : OpenClaim := { program := "ytafcmeoidcgmdaadoor", sum := "b82831327767774d80580b3a75eb24e692f3adfc96108495d9b8a072ad3dbdd8", func := "millpond/millpondlaw02.PoolLeast", spec := "poolLeast", named := ["math/bits.deBruijn64tab"], apart := false, laid := [("math/bits.deBruijn64tab", laid_math_bits_deBruijn64tab)] }
def PoolLeastSaid : Prop := poolLeastRow.holds Tryd.pinned (OpenSpec.ofChange poolLeastSpec)

/-- ITS FALSE NEIGHBOUR: 'it returns false'. Refute it at one input. -/
def poolLeastWrong : ChangeSpec := { name := "poolLeast", fn := fun _ => fun
  | [d1, d2] => { results := [.lit (.bool false)], args := [d1, d2] }
  | _ => none }
def PoolLeastWrongFalsely : Prop := poolLeastRow.holds Tryd.pinned (OpenSpec.ofChange poolLeastWrong)

/-- 'millpondlaw02.PoolLevels': WHATEVER THE INPUT: true; the input reads as it did. -/
def poolLevelsSpec : ChangeSpec := { name := "poolLevels", fn := fun _ => fun
  | [d1, d2, d3, d4] => { results := [.lit (.bool true)], args := [d1, d2, d3, d4] }
  | _ => none }
def poolLevelsRow : OpenClaim := { program := "ytafcmeoidcgmdaadoor", sum := "b82831327767774d80580b3a75eb24e692f3adfc96108495d9b8a072ad3dbdd8", func := "millpond/millpondlaw02.PoolLevels", spec := "poolLevels", named := ["math/bits.deBruijn64tab"], apart := false, laid := [("math/bits.deBruijn64tab", laid_math_bits_deBruijn64tab)] }
def PoolLevelsSaid : Prop := poolLevelsRow.holds Tryd.pinned (OpenSpec.ofChange poolLevelsSpec)

/-- ITS FALSE NEIGHBOUR: 'it returns false'. Refute it at one input. -/
def poolLevelsWrong : ChangeSpec := { name := "poolLevels", fn := fun _ => fun
  | [d1, d2, d3, d4] => { results := [.lit (.bool false)], args := [d1, d2, d3, d4] }
  | _ => none }
def PoolLevelsWrongFalsely : Prop := poolLevelsRow.holds Tryd.pinned (OpenSpec.ofChange poolLevelsWrong)

/-- 'millpondlaw02.PoolWhole': WHATEVER THE INPUT: true; the input reads as it did. -/
def poolWholeSpec : ChangeSpec := { name := "poolWhole", fn := fun _ => fun
  | [d1, d2] => { results := [.lit (.bool true)], args := [d1, d2] }
  | _ => none }
def poolWholeRow : OpenClaim := { program := "ytafcmeoidcgmdaadoor", sum := "b82831327767774d80580b3a75eb24e692f3adfc96108495d9b8a072ad3dbdd8", func := "millpond/millpondlaw02.PoolWhole", spec := "poolWhole", named := ["math/bits.deBruijn64tab"], apart := false, laid := [("math/bits.deBruijn64tab", laid_math_bits_deBruijn64tab)] }
def PoolWholeSaid : Prop := poolWholeRow.holds Tryd.pinned (OpenSpec.ofChange poolWholeSpec)

/-- ITS FALSE NEIGHBOUR: 'it returns false'. Refute it at one input. -/
def poolWholeWrong : ChangeSpec := { name := "poolWhole", fn := fun _ => fun
  | [d1, d2] => { results := [.lit (.bool false)], args := [d1, d2] }
  | _ => none }
def PoolWholeWrongFalsely : Prop := poolWholeRow.holds Tryd.pinned (OpenSpec.ofChange poolWholeWrong)

/- THE SECOND FORM. 'bulk': how many values and letters a reading holds, each counted each time it is reached (what is shared counts as often as it is met; a slice's spare places count too). A statement '..UptoSaid' is the law's where the arguments, and the package variables that the reading takes, are together of bulk at most 1048576: NARROWER than '..Said'. Prove '..Said' where nothing that the law and all that it calls make is longer than what came in: it says more and counts as full. Else prove '..UptoSaid'. A law counts once. -/
mutual
def uptoBulk {H : Type} : DataW H → Nat
  | .lit (.string bytes) => bytes.length + 1
  | .lit _ => 1
  | .nil => 1
  | .ptr d => uptoBulk d + 1
  | .slice elems spare => uptoBulkAll elems + uptoBulkAll spare + 1
  | .agg parts => uptoBulkAll parts + 1
  | .iface _ d => uptoBulk d + 1
  | .map entries => uptoBulkEntries entries + 1
  | .held _ => 1
def uptoBulkAll {H : Type} : List (DataW H) → Nat
  | [] => 0
  | d :: r => uptoBulk d + uptoBulkAll r
def uptoBulkEntries {H : Type} : List (Lit × DataW H) → Nat
  | [] => 0
  | x :: r => uptoBulkEntry x + uptoBulkEntries r
def uptoBulkEntry {H : Type} : Lit × DataW H → Nat
  | (.string bytes, d) => bytes.length + uptoBulk d + 1
  | (_, d) => uptoBulk d + 1
 end
def uptoSmall : (H : Type) → List (DataW H) → Bool := fun _ ds => decide (uptoBulkAll ds ≤ 1048576)
def OpenSpec.upto (s : _root_.Go.ChangeSpec) : _root_.Go.OpenSpec := { _root_.Go.OpenSpec.ofChange s with cond := some uptoSmall }

/-- 'millpondlaw02.PoolDoes', WHERE WHAT IT READS IS OF BULK AT MOST 1048576: true; the input reads as it did. -/
def poolDoesUptoRow : OpenClaim := { program := "ytafcmeoidcgmdaadoor", sum := "b82831327767774d80580b3a75eb24e692f3adfc96108495d9b8a072ad3dbdd8", func := "millpond/millpondlaw02.PoolDoes", spec := "poolDoes", named := ["math/bits.deBruijn64tab"], apart := false, laid := [("math/bits.deBruijn64tab", laid_math_bits_deBruijn64tab)], narrowed := true }
def PoolDoesUptoSaid : Prop := poolDoesUptoRow.holds Tryd.pinned (OpenSpec.upto poolDoesSpec)

/-- 'millpondlaw02.PoolOnce', WHERE WHAT IT READS IS OF BULK AT MOST 1048576: true; the input reads as it did. -/
def poolOnceUptoRow : OpenClaim := { program := "ytafcmeoidcgmdaadoor", sum := "b82831327767774d80580b3a75eb24e692f3adfc96108495d9b8a072ad3dbdd8", func := "millpond/millpondlaw02.PoolOnce", spec := "poolOnce", named := ["math/bits.deBruijn64tab"], apart := false, laid := [("math/bits.deBruijn64tab", laid_math_bits_deBruijn64tab)], narrowed := true }
def PoolOnceUptoSaid : Prop := poolOnceUptoRow.holds Tryd.pinned (OpenSpec.upto poolOnceSpec)

/-- 'millpondlaw02.PoolRuns', WHERE WHAT IT READS IS OF BULK AT MOST 1048576: true; the input reads as it did. -/
def poolRunsUptoRow : OpenClaim := { program := "ytafcmeoidcgmdaadoor", sum := "b82831327767774d80580b3a75eb24e692f3adfc96108495d9b8a072ad3dbdd8", func := "millpond/millpondlaw02.PoolRuns", spec := "poolRuns", named := ["math/bits.deBruijn64tab"], apart := false, laid := [("math/bits.deBruijn64tab", laid_math_bits_deBruijn64tab)], narrowed := true }
def PoolRunsUptoSaid : Prop := poolRunsUptoRow.holds Tryd.pinned (OpenSpec.upto poolRunsSpec)

/-- 'millpondlaw02.PoolLeast', WHERE WHAT IT READS IS OF BULK AT MOST 1048576: true; the input reads as it did. -/
def poolLeastUptoRow : OpenClaim := { program := "ytafcmeoidcgmdaadoor", sum := "b82831327767774d80580b3a75eb24e692f3adfc96108495d9b8a072ad3dbdd8", func := "millpond/millpondlaw02.PoolLeast", spec := "poolLeast", named := ["math/bits.deBruijn64tab"], apart := false, laid := [("math/bits.deBruijn64tab", laid_math_bits_deBruijn64tab)], narrowed := true }
def PoolLeastUptoSaid : Prop := poolLeastUptoRow.holds Tryd.pinned (OpenSpec.upto poolLeastSpec)

/-- 'millpondlaw02.PoolLevels', WHERE WHAT IT READS IS OF BULK AT MOST 1048576: true; the input reads as it did. -/
def poolLevelsUptoRow : OpenClaim := { program := "ytafcmeoidcgmdaadoor", sum := "b82831327767774d80580b3a75eb24e692f3adfc96108495d9b8a072ad3dbdd8", func := "millpond/millpondlaw02.PoolLevels", spec := "poolLevels", named := ["math/bits.deBruijn64tab"], apart := false, laid := [("math/bits.deBruijn64tab", laid_math_bits_deBruijn64tab)], narrowed := true }
def PoolLevelsUptoSaid : Prop := poolLevelsUptoRow.holds Tryd.pinned (OpenSpec.upto poolLevelsSpec)

/-- 'millpondlaw02.PoolWhole', WHERE WHAT IT READS IS OF BULK AT MOST 1048576: true; the input reads as it did. -/
def poolWholeUptoRow : OpenClaim := { program := "ytafcmeoidcgmdaadoor", sum := "b82831327767774d80580b3a75eb24e692f3adfc96108495d9b8a072ad3dbdd8", func := "millpond/millpondlaw02.PoolWhole", spec := "poolWhole", named := ["math/bits.deBruijn64tab"], apart := false, laid := [("math/bits.deBruijn64tab", laid_math_bits_deBruijn64tab)], narrowed := true }
def PoolWholeUptoSaid : Prop := poolWholeUptoRow.holds Tryd.pinned (OpenSpec.upto poolWholeSpec)

end Rows
end Go.Proofs.YtafcmeoidcgmdaaDoor
