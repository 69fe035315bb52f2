/-
  NARROWER THAN 'FOR EVERY INPUT', by the rows' own cells (each row's printed sentence says how): BitsSets: laid · BitsPacks: laid · BitsDigits: laid · BitsBack: laid · BitsNext: laid · BitsSet: laid · BitsFields: laid · BitsJoins: laid.
  DERIVED. THE GIVEN ROWS OF THIS SEAT. 8 by the template 'for every input the law returns true; each argument reads behind the call as it read before'; 0 by the template 'total and deterministic' (their statements: YtjampfcibocnlaaDoorTotals.lean).
  GIVEN WITH THE SEED: the statements are not yours to turn. If you find one false, say at which input.
  Laid BY PROGRAM, IN A SANDBOX (cutbox-rows.mjs): the forced cells as the released guide's own fill.sh prints them over the translation 887ae34e96fadbb7… (all of the seat's roots in one cut). By AI agents, Wed Nov 11 2026. No macro, syntax, notation, axiom, sorry.
-/
import Derived.Test.YtjampfcibocnlaaDoorChecked
import GoSem.Claim
import GoSem.ClaimJoined
import GoSem.ClaimMapViews
import Derived.JoinedTies
import Derived.KernelRfl
namespace Go.Proofs.YtjampfcibocnlaaDoor
/- THE CELL 'sum', in the pinned program and in every row, IS THE sha256 OF THE DUMP (.gsa) THAT YtjampfcibocnlaaDoorProg.lean LOADS. Nothing in Lean hashes anything: it is a label: what it is worth is what the hold of that sum in a sandbox is worth. -/
noncomputable def Tryd.pinned : Pinned := { name := "ytjampfcibocnlaadoor", sum := "887ae34e96fadbb7ebe78c5ea45f0ec29f00fd32c5e3b6428ff3b73d9c4d6099", checked := Tryd.checked }
namespace Rows
def none {H : Type} : Left H := { results := [], args := [] }

/- WHAT THE LISTED PACKAGE-LEVEL VARIABLES READ AS WHEN THE CALL BEGINS. Each datum BY PROGRAM (the guide's laid-datum.mjs) off the statement by which the dump's own 'gosem.cut.vars' lays the variable. In a bare row this is a premise. The card (YtjampfcibocnlaaDoorCards.lean) ties it to the program's text. -/
def laid_math_bits_deBruijn64tab {H : Type} : DataW H := .agg [.lit (.int .u8 0), .lit (.int .u8 1), .lit (.int .u8 56), .lit (.int .u8 2), .lit (.int .u8 57), .lit (.int .u8 49), .lit (.int .u8 28), .lit (.int .u8 3), .lit (.int .u8 61), .lit (.int .u8 58), .lit (.int .u8 42), .lit (.int .u8 50), .lit (.int .u8 38), .lit (.int .u8 29), .lit (.int .u8 17), .lit (.int .u8 4), .lit (.int .u8 62), .lit (.int .u8 47), .lit (.int .u8 59), .lit (.int .u8 36), .lit (.int .u8 45), .lit (.int .u8 43), .lit (.int .u8 51), .lit (.int .u8 22), .lit (.int .u8 53), .lit (.int .u8 39), .lit (.int .u8 33), .lit (.int .u8 30), .lit (.int .u8 24), .lit (.int .u8 18), .lit (.int .u8 12), .lit (.int .u8 5), .lit (.int .u8 63), .lit (.int .u8 55), .lit (.int .u8 48), .lit (.int .u8 27), .lit (.int .u8 60), .lit (.int .u8 41), .lit (.int .u8 37), .lit (.int .u8 16), .lit (.int .u8 46), .lit (.int .u8 35), .lit (.int .u8 44), .lit (.int .u8 21), .lit (.int .u8 52), .lit (.int .u8 32), .lit (.int .u8 23), .lit (.int .u8 11), .lit (.int .u8 54), .lit (.int .u8 26), .lit (.int .u8 40), .lit (.int .u8 15), .lit (.int .u8 34), .lit (.int .u8 20), .lit (.int .u8 31), .lit (.int .u8 10), .lit (.int .u8 25), .lit (.int .u8 14), .lit (.int .u8 19), .lit (.int .u8 9), .lit (.int .u8 13), .lit (.int .u8 8), .lit (.int .u8 7), .lit (.int .u8 6)]

/-- 'millpondlaw01.BitsSets': WHATEVER THE INPUT: true; the input reads as it did. -/
def bitsSetsSpec : ChangeSpec := { name := "bitsSets", fn := fun _ => fun
  | [d1, d2, d3, d4] => { results := [.lit (.bool true)], args := [d1, d2, d3, d4] }
  | _ => none }
def bitsSetsRow : OpenClaim := { program := "ytjampfcibocnlaadoor", sum := "887ae34e96fadbb7ebe78c5ea45f0ec29f00fd32c5e3b6428ff3b73d9c4d6099", func := "millpond/millpondlaw01.BitsSets", spec := "bitsSets", named := ["math/bits.deBruijn64tab"], apart := false, laid := [("math/bits.deBruijn64tab", laid_math_bits_deBruijn64tab)] }
def BitsSetsSaid : Prop := bitsSetsRow.holds Tryd.pinned (OpenSpec.ofChange bitsSetsSpec)

/-- ITS FALSE NEIGHBOUR: 'it returns false'. Refute it at one input. -/
def bitsSetsWrong : ChangeSpec := { name := "bitsSets", fn := fun _ => fun
  | [d1, d2, d3, d4] => { results := [.lit (.bool false)], args := [d1, d2, d3, d4] }
  | _ => none }
def BitsSetsWrongFalsely : Prop := bitsSetsRow.holds Tryd.pinned (OpenSpec.ofChange bitsSetsWrong)

/-- 'millpondlaw01.BitsPacks': WHATEVER THE INPUT: true; the input reads as it did. -/
def bitsPacksSpec : ChangeSpec := { name := "bitsPacks", fn := fun _ => fun
  | [d1, d2, d3] => { results := [.lit (.bool true)], args := [d1, d2, d3] }
  | _ => none }
def bitsPacksRow : OpenClaim := { program := "ytjampfcibocnlaadoor", sum := "887ae34e96fadbb7ebe78c5ea45f0ec29f00fd32c5e3b6428ff3b73d9c4d6099", func := "millpond/millpondlaw01.BitsPacks", spec := "bitsPacks", named := ["math/bits.deBruijn64tab"], apart := false, laid := [("math/bits.deBruijn64tab", laid_math_bits_deBruijn64tab)] }
def BitsPacksSaid : Prop := bitsPacksRow.holds Tryd.pinned (OpenSpec.ofChange bitsPacksSpec)

/-- ITS FALSE NEIGHBOUR: 'it returns false'. Refute it at one input. -/
def bitsPacksWrong : ChangeSpec := { name := "bitsPacks", fn := fun _ => fun
  | [d1, d2, d3] => { results := [.lit (.bool false)], args := [d1, d2, d3] }
  | _ => none }
def BitsPacksWrongFalsely : Prop := bitsPacksRow.holds Tryd.pinned (OpenSpec.ofChange bitsPacksWrong)

/-- 'millpondlaw01.BitsDigits': WHATEVER THE INPUT: true; the input reads as it did. -/
def bitsDigitsSpec : ChangeSpec := { name := "bitsDigits", fn := fun _ => fun
  | [d1, d2, d3] => { results := [.lit (.bool true)], args := [d1, d2, d3] }
  | _ => none }
def bitsDigitsRow : OpenClaim := { program := "ytjampfcibocnlaadoor", sum := "887ae34e96fadbb7ebe78c5ea45f0ec29f00fd32c5e3b6428ff3b73d9c4d6099", func := "millpond/millpondlaw01.BitsDigits", spec := "bitsDigits", named := ["math/bits.deBruijn64tab"], apart := false, laid := [("math/bits.deBruijn64tab", laid_math_bits_deBruijn64tab)] }
def BitsDigitsSaid : Prop := bitsDigitsRow.holds Tryd.pinned (OpenSpec.ofChange bitsDigitsSpec)

/-- ITS FALSE NEIGHBOUR: 'it returns false'. Refute it at one input. -/
def bitsDigitsWrong : ChangeSpec := { name := "bitsDigits", fn := fun _ => fun
  | [d1, d2, d3] => { results := [.lit (.bool false)], args := [d1, d2, d3] }
  | _ => none }
def BitsDigitsWrongFalsely : Prop := bitsDigitsRow.holds Tryd.pinned (OpenSpec.ofChange bitsDigitsWrong)

/-- 'millpondlaw01.BitsBack': WHATEVER THE INPUT: true; the input reads as it did. -/
def bitsBackSpec : ChangeSpec := { name := "bitsBack", fn := fun _ => fun
  | [d1, d2, d3] => { results := [.lit (.bool true)], args := [d1, d2, d3] }
  | _ => none }
def bitsBackRow : OpenClaim := { program := "ytjampfcibocnlaadoor", sum := "887ae34e96fadbb7ebe78c5ea45f0ec29f00fd32c5e3b6428ff3b73d9c4d6099", func := "millpond/millpondlaw01.BitsBack", spec := "bitsBack", named := ["math/bits.deBruijn64tab"], apart := false, laid := [("math/bits.deBruijn64tab", laid_math_bits_deBruijn64tab)] }
def BitsBackSaid : Prop := bitsBackRow.holds Tryd.pinned (OpenSpec.ofChange bitsBackSpec)

/-- ITS FALSE NEIGHBOUR: 'it returns false'. Refute it at one input. -/
def bitsBackWrong : ChangeSpec := { name := "bitsBack", fn := fun _ => fun
  | [d1, d2, d3] => { results := [.lit (.bool false)], args := [d1, d2, d3] }
  | _ => none }
def BitsBackWrongFalsely : Prop := bitsBackRow.holds Tryd.pinned (OpenSpec.ofChange bitsBackWrong)

/-- 'millpondlaw01.BitsNext': WHATEVER THE INPUT: true; the input reads as it did. -/
def bitsNextSpec : ChangeSpec := { name := "bitsNext", fn := fun _ => fun
  | [d1, d2, d3] => { results := [.lit (.bool true)], args := [d1, d2, d3] }
  | _ => none }
def bitsNextRow : OpenClaim := { program := "ytjampfcibocnlaadoor", sum := "887ae34e96fadbb7ebe78c5ea45f0ec29f00fd32c5e3b6428ff3b73d9c4d6099", func := "millpond/millpondlaw01.BitsNext", spec := "bitsNext", named := ["math/bits.deBruijn64tab"], apart := false, laid := [("math/bits.deBruijn64tab", laid_math_bits_deBruijn64tab)] }
def BitsNextSaid : Prop := bitsNextRow.holds Tryd.pinned (OpenSpec.ofChange bitsNextSpec)

/-- ITS FALSE NEIGHBOUR: 'it returns false'. Refute it at one input. -/
def bitsNextWrong : ChangeSpec := { name := "bitsNext", fn := fun _ => fun
  | [d1, d2, d3] => { results := [.lit (.bool false)], args := [d1, d2, d3] }
  | _ => none }
def BitsNextWrongFalsely : Prop := bitsNextRow.holds Tryd.pinned (OpenSpec.ofChange bitsNextWrong)

/-- 'millpondlaw01.BitsSet': WHATEVER THE INPUT: true; the input reads as it did. -/
def bitsSetSpec : ChangeSpec := { name := "bitsSet", fn := fun _ => fun
  | [d1, d2, d3, d4, d5] => { results := [.lit (.bool true)], args := [d1, d2, d3, d4, d5] }
  | _ => none }
def bitsSetRow : OpenClaim := { program := "ytjampfcibocnlaadoor", sum := "887ae34e96fadbb7ebe78c5ea45f0ec29f00fd32c5e3b6428ff3b73d9c4d6099", func := "millpond/millpondlaw01.BitsSet", spec := "bitsSet", named := ["math/bits.deBruijn64tab"], apart := false, laid := [("math/bits.deBruijn64tab", laid_math_bits_deBruijn64tab)] }
def BitsSetSaid : Prop := bitsSetRow.holds Tryd.pinned (OpenSpec.ofChange bitsSetSpec)

/-- ITS FALSE NEIGHBOUR: 'it returns false'. Refute it at one input. -/
def bitsSetWrong : ChangeSpec := { name := "bitsSet", fn := fun _ => fun
  | [d1, d2, d3, d4, d5] => { results := [.lit (.bool false)], args := [d1, d2, d3, d4, d5] }
  | _ => none }
def BitsSetWrongFalsely : Prop := bitsSetRow.holds Tryd.pinned (OpenSpec.ofChange bitsSetWrong)

/-- 'millpondlaw01.BitsFields': WHATEVER THE INPUT: true; the input reads as it did. -/
def bitsFieldsSpec : ChangeSpec := { name := "bitsFields", fn := fun _ => fun
  | [d1, d2, d3, d4] => { results := [.lit (.bool true)], args := [d1, d2, d3, d4] }
  | _ => none }
def bitsFieldsRow : OpenClaim := { program := "ytjampfcibocnlaadoor", sum := "887ae34e96fadbb7ebe78c5ea45f0ec29f00fd32c5e3b6428ff3b73d9c4d6099", func := "millpond/millpondlaw01.BitsFields", spec := "bitsFields", named := ["math/bits.deBruijn64tab"], apart := false, laid := [("math/bits.deBruijn64tab", laid_math_bits_deBruijn64tab)] }
def BitsFieldsSaid : Prop := bitsFieldsRow.holds Tryd.pinned (OpenSpec.ofChange bitsFieldsSpec)

/-- ITS FALSE NEIGHBOUR: 'it returns false'. Refute it at one input. -/
def bitsFieldsWrong : ChangeSpec := { name := "bitsFields", fn := fun _ => fun
  | [d1, d2, d3, d4] => { results := [.lit (.bool false)], args := [d1, d2, d3, d4] }
  | _ => none }
def BitsFieldsWrongFalsely : Prop := bitsFieldsRow.holds Tryd.pinned (OpenSpec.ofChange bitsFieldsWrong)

/-- 'millpondlaw01.BitsJoins': WHATEVER THE INPUT: true; the input reads as it did. -/
def bitsJoinsSpec : ChangeSpec := { name := "bitsJoins", fn := fun _ => fun
  | [d1, d2, d3] => { results := [.lit (.bool true)], args := [d1, d2, d3] }
  | _ => none }
def bitsJoinsRow : OpenClaim := { program := "ytjampfcibocnlaadoor", sum := "887ae34e96fadbb7ebe78c5ea45f0ec29f00fd32c5e3b6428ff3b73d9c4d6099", func := "millpond/millpondlaw01.BitsJoins", spec := "bitsJoins", named := ["math/bits.deBruijn64tab"], apart := false, laid := [("math/bits.deBruijn64tab", laid_math_bits_deBruijn64tab)] }
def BitsJoinsSaid : Prop := bitsJoinsRow.holds Tryd.pinned (OpenSpec.ofChange bitsJoinsSpec)

/-- ITS FALSE NEIGHBOUR: 'it returns false'. Refute it at one input. -/
def bitsJoinsWrong : ChangeSpec := { name := "bitsJoins", fn := fun _ => fun
  | [d1, d2, d3] => { results := [.lit (.bool false)], args := [d1, d2, d3] }
  | _ => none }
def BitsJoinsWrongFalsely : Prop := bitsJoinsRow.holds Tryd.pinned (OpenSpec.ofChange bitsJoinsWrong)

/- THE SECOND FORM. 'bulk': how many values and letters a reading holds, each counted each time it is reached (what is shared counts as often as it is met; a slice's spare places count too). A statement '..UptoSaid' is the law's where the arguments, and the package variables that the reading takes, are together of bulk at most 1048576: NARROWER than '..Said'. Prove '..Said' where nothing that the law and all that it calls make is longer than what came in: it says more and counts as full. Else prove '..UptoSaid'. A law counts once. -/
mutual
def uptoBulk {H : Type} : DataW H → Nat
  | .lit (.string bytes) => bytes.length + 1
  | .lit _ => 1
  | .nil => 1
  | .ptr d => uptoBulk d + 1
  | .slice elems spare => uptoBulkAll elems + uptoBulkAll spare + 1
  | .agg parts => uptoBulkAll parts + 1
  | .iface _ d => uptoBulk d + 1
  | .map entries => uptoBulkEntries entries + 1
  | .held _ => 1
def uptoBulkAll {H : Type} : List (DataW H) → Nat
  | [] => 0
  | d :: r => uptoBulk d + uptoBulkAll r
def uptoBulkEntries {H : Type} : List (Lit × DataW H) → Nat
  | [] => 0
  | x :: r => uptoBulkEntry x + uptoBulkEntries r
def uptoBulkEntry {H : Type} : Lit × DataW H → Nat
  | (.string bytes, d) => bytes.length + uptoBulk d + 1
  | (_, d) => uptoBulk d + 1
 end
def uptoSmall : (H : Type) → List (DataW H) → Bool := fun _ ds => decide (uptoBulkAll ds ≤ 1048576)
def OpenSpec.upto (s : _root_.Go.ChangeSpec) : _root_.Go.OpenSpec := { _root_.Go.OpenSpec.ofChange s with cond := some uptoSmall }

/-- 'millpondlaw01.BitsSets', WHERE WHAT IT READS IS OF BULK AT MOST 1048576: true; the input reads as it did. -/
def bitsSetsUptoRow : OpenClaim := { program := "ytjampfcibocnlaadoor", sum := "887ae34e96fadbb7ebe78c5ea45f0ec29f00fd32c5e3b6428ff3b73d9c4d6099", func := "millpond/millpondlaw01.BitsSets", spec := "bitsSets", named := ["math/bits.deBruijn64tab"], apart := false, laid := [("math/bits.deBruijn64tab", laid_math_bits_deBruijn64tab)], narrowed := true }
def BitsSetsUptoSaid : Prop := bitsSetsUptoRow.holds Tryd.pinned (OpenSpec.upto bitsSetsSpec)

/-- 'millpondlaw01.BitsPacks', WHERE WHAT IT READS IS OF BULK AT MOST 1048576: true; the input reads as it did. -/
def bitsPacksUptoRow : OpenClaim := { program := "ytjampfcibocnlaadoor", sum := "887ae34e96fadbb7ebe78c5ea45f0ec29f00fd32c5e3b6428ff3b73d9c4d6099", func := "millpond/millpondlaw01.BitsPacks", spec := "bitsPacks", named := ["math/bits.deBruijn64tab"], apart := false, laid := [("math/bits.deBruijn64tab", laid_math_bits_deBruijn64tab)], narrowed := true }
def BitsPacksUptoSaid : Prop := bitsPacksUptoRow.holds Tryd.pinned (OpenSpec.upto bitsPacksSpec)

/-- 'millpondlaw01.BitsDigits', WHERE WHAT IT READS IS OF BULK AT MOST 1048576: true; the input reads as it did. -/
def bitsDigitsUptoRow : OpenClaim := { program := "ytjampfcibocnlaadoor", sum := "887ae34e96fadbb7ebe78c5ea45f0ec29f00fd32c5e3b6428ff3b73d9c4d6099", func := "millpond/millpondlaw01.BitsDigits", spec := "bitsDigits", named := ["math/bits.deBruijn64tab"], apart := false, laid := [("math/bits.deBruijn64tab", laid_math_bits_deBruijn64tab)], narrowed := true }
def BitsDigitsUptoSaid : Prop := bitsDigitsUptoRow.holds Tryd.pinned (OpenSpec.upto bitsDigitsSpec)

/-- 'millpondlaw01.BitsBack', WHERE WHAT IT READS IS OF BULK AT MOST 1048576: true; the input reads as it did. -/
def bitsBackUptoRow : OpenClaim := { program := "ytjampfcibocnlaadoor", sum := "887ae34e96fadbb7ebe78c5ea45f0ec29f00fd32c5e3b6428ff3b73d9c4d6099", func := "millpond/millpondlaw01.BitsBack", spec := "bitsBack", named := ["math/bits.deBruijn64tab"], apart := false, laid := [("math/bits.deBruijn64tab", laid_math_bits_deBruijn64tab)], narrowed := true }
def BitsBackUptoSaid : Prop := bitsBackUptoRow.holds Tryd.pinned (OpenSpec.upto bitsBackSpec)

/-- 'millpondlaw01.BitsNext', WHERE WHAT IT READS IS OF BULK AT MOST 1048576: true; the input reads as it did. -/
def bitsNextUptoRow : OpenClaim := { program := "ytjampfcibocnlaadoor", sum := "887ae34e96fadbb7ebe78c5ea45f0ec29f00fd32c5e3b6428ff3b73d9c4d6099", func := "millpond/millpondlaw01.BitsNext", spec := "bitsNext", named := ["math/bits.deBruijn64tab"], apart := false, laid := [("math/bits.deBruijn64tab", laid_math_bits_deBruijn64tab)], narrowed := true }
def BitsNextUptoSaid : Prop := bitsNextUptoRow.holds Tryd.pinned (OpenSpec.upto bitsNextSpec)

/-- 'millpondlaw01.BitsSet', WHERE WHAT IT READS IS OF BULK AT MOST 1048576: true; the input reads as it did. -/
def bitsSetUptoRow : OpenClaim := { program := "ytjampfcibocnlaadoor", sum := "887ae34e96fadbb7ebe78c5ea45f0ec29f00fd32c5e3b6428ff3b73d9c4d6099", func := "millpond/millpondlaw01.BitsSet", spec := "bitsSet", named := ["math/bits.deBruijn64tab"], apart := false, laid := [("math/bits.deBruijn64tab", laid_math_bits_deBruijn64tab)], narrowed := true }
def BitsSetUptoSaid : Prop := bitsSetUptoRow.holds Tryd.pinned (OpenSpec.upto bitsSetSpec)

/-- 'millpondlaw01.BitsFields', WHERE WHAT IT READS IS OF BULK AT MOST 1048576: true; the input reads as it did. -/
def bitsFieldsUptoRow : OpenClaim := { program := "ytjampfcibocnlaadoor", sum := "887ae34e96fadbb7ebe78c5ea45f0ec29f00fd32c5e3b6428ff3b73d9c4d6099", func := "millpond/millpondlaw01.BitsFields", spec := "bitsFields", named := ["math/bits.deBruijn64tab"], apart := false, laid := [("math/bits.deBruijn64tab", laid_math_bits_deBruijn64tab)], narrowed := true }
def BitsFieldsUptoSaid : Prop := bitsFieldsUptoRow.holds Tryd.pinned (OpenSpec.upto bitsFieldsSpec)

/-- 'millpondlaw01.BitsJoins', WHERE WHAT IT READS IS OF BULK AT MOST 1048576: true; the input reads as it did. -/
def bitsJoinsUptoRow : OpenClaim := { program := "ytjampfcibocnlaadoor", sum := "887ae34e96fadbb7ebe78c5ea45f0ec29f00fd32c5e3b6428ff3b73d9c4d6099", func := "millpond/millpondlaw01.BitsJoins", spec := "bitsJoins", named := ["math/bits.deBruijn64tab"], apart := false, laid := [("math/bits.deBruijn64tab", laid_math_bits_deBruijn64tab)], narrowed := true }
def BitsJoinsUptoSaid : Prop := bitsJoinsUptoRow.holds Tryd.pinned (OpenSpec.upto bitsJoinsSpec)

end Rows
end Go.Proofs.YtjampfcibocnlaaDoor
