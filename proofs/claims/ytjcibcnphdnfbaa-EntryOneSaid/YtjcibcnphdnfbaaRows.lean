/-
  No cell of these rows narrows 'for every input' (looked for: loops, veiled, ifaces, maps, wideKeys, modest, calm, conditions, laid).
  DERIVED. THE GIVEN ROWS OF THIS SEAT. 6 by the template 'for every input the law returns true; each argument reads behind the call as it read before'; 0 by the template 'total and deterministic' (their statements: YtjcibcnphdnfbaaTotals.lean).
  GIVEN WITH THE SEED: the statements are not yours to turn. If you find one false, say at which input.
  Laid BY PROGRAM, IN A SANDBOX (cutbox-rows.mjs): the forced cells as the released guide's own fill.sh prints them over the translation a85f6ceafc89478c… (all of the seat's roots in one cut). By AI agents, Wed Nov 11 2026. No macro, syntax, notation, axiom, sorry.
-/
import Derived.Test.YtjcibcnphdnfbaaChecked
import GoSem.Claim
import GoSem.ClaimJoined
import GoSem.ClaimMapViews
import Derived.JoinedTies
import Derived.KernelRfl
namespace Go.Proofs.Ytjcibcnphdnfbaa
/- THE CELL 'sum', in the pinned program and in every row, IS THE sha256 OF THE DUMP (.gsa) THAT YtjcibcnphdnfbaaProg.lean LOADS. Nothing in Lean hashes anything: it is a label: what it is worth is what the hold of that sum in a sandbox is worth. -/
noncomputable def Try.pinned : Pinned := { name := "ytjcibcnphdnfbaa", sum := "a85f6ceafc89478c3e236d98446821517cffaa0eccff1d2b59434f92cf053791", checked := Try.checked }
namespace Rows
def none {H : Type} : Left H := { results := [], args := [] }

/-- 'millpondlaw06.EntryPacks': WHATEVER THE INPUT: true; the input reads as it did. -/
def entryPacksSpec : ChangeSpec := { name := "entryPacks", fn := fun _ => fun
  | [d1, d2] => { results := [.lit (.bool true)], args := [d1, d2] }
  | _ => none }
def entryPacksRow : OpenClaim := { program := "ytjcibcnphdnfbaa", sum := "a85f6ceafc89478c3e236d98446821517cffaa0eccff1d2b59434f92cf053791", func := "millpond/millpondlaw06.EntryPacks", spec := "entryPacks", apart := false }
def EntryPacksSaid : Prop := entryPacksRow.holds Try.pinned (OpenSpec.ofChange entryPacksSpec)

/-- ITS FALSE NEIGHBOUR: 'it returns false'. Refute it at one input. -/
def entryPacksWrong : ChangeSpec := { name := "entryPacks", fn := fun _ => fun
  | [d1, d2] => { results := [.lit (.bool false)], args := [d1, d2] }
  | _ => none }
def EntryPacksWrongFalsely : Prop := entryPacksRow.holds Try.pinned (OpenSpec.ofChange entryPacksWrong)

/-- 'millpondlaw06.EntryTurns': WHATEVER THE INPUT: true; the input reads as it did. -/
def entryTurnsSpec : ChangeSpec := { name := "entryTurns", fn := fun _ => fun
  | [d1, d2] => { results := [.lit (.bool true)], args := [d1, d2] }
  | _ => none }
def entryTurnsRow : OpenClaim := { program := "ytjcibcnphdnfbaa", sum := "a85f6ceafc89478c3e236d98446821517cffaa0eccff1d2b59434f92cf053791", func := "millpond/millpondlaw06.EntryTurns", spec := "entryTurns", apart := false }
def EntryTurnsSaid : Prop := entryTurnsRow.holds Try.pinned (OpenSpec.ofChange entryTurnsSpec)

/-- ITS FALSE NEIGHBOUR: 'it returns false'. Refute it at one input. -/
def entryTurnsWrong : ChangeSpec := { name := "entryTurns", fn := fun _ => fun
  | [d1, d2] => { results := [.lit (.bool false)], args := [d1, d2] }
  | _ => none }
def EntryTurnsWrongFalsely : Prop := entryTurnsRow.holds Try.pinned (OpenSpec.ofChange entryTurnsWrong)

/-- 'millpondlaw06.EntryBack': WHATEVER THE INPUT: true; the input reads as it did. -/
def entryBackSpec : ChangeSpec := { name := "entryBack", fn := fun _ => fun
  | [d1, d2] => { results := [.lit (.bool true)], args := [d1, d2] }
  | _ => none }
def entryBackRow : OpenClaim := { program := "ytjcibcnphdnfbaa", sum := "a85f6ceafc89478c3e236d98446821517cffaa0eccff1d2b59434f92cf053791", func := "millpond/millpondlaw06.EntryBack", spec := "entryBack", apart := false }
def EntryBackSaid : Prop := entryBackRow.holds Try.pinned (OpenSpec.ofChange entryBackSpec)

/-- ITS FALSE NEIGHBOUR: 'it returns false'. Refute it at one input. -/
def entryBackWrong : ChangeSpec := { name := "entryBack", fn := fun _ => fun
  | [d1, d2] => { results := [.lit (.bool false)], args := [d1, d2] }
  | _ => none }
def EntryBackWrongFalsely : Prop := entryBackRow.holds Try.pinned (OpenSpec.ofChange entryBackWrong)

/-- 'millpondlaw06.EntryOne': WHATEVER THE INPUT: true; the input reads as it did. -/
def entryOneSpec : ChangeSpec := { name := "entryOne", fn := fun _ => fun
  | [d1, d2] => { results := [.lit (.bool true)], args := [d1, d2] }
  | _ => none }
def entryOneRow : OpenClaim := { program := "ytjcibcnphdnfbaa", sum := "a85f6ceafc89478c3e236d98446821517cffaa0eccff1d2b59434f92cf053791", func := "millpond/millpondlaw06.EntryOne", spec := "entryOne", apart := false }
def EntryOneSaid : Prop := entryOneRow.holds Try.pinned (OpenSpec.ofChange entryOneSpec)

/-- ITS FALSE NEIGHBOUR: 'it returns false'. Refute it at one input. -/
def entryOneWrong : ChangeSpec := { name := "entryOne", fn := fun _ => fun
  | [d1, d2] => { results := [.lit (.bool false)], args := [d1, d2] }
  | _ => none }
def EntryOneWrongFalsely : Prop := entryOneRow.holds Try.pinned (OpenSpec.ofChange entryOneWrong)

/-- 'millpondlaw06.EntryBits': WHATEVER THE INPUT: true; the input reads as it did. -/
def entryBitsSpec : ChangeSpec := { name := "entryBits", fn := fun _ => fun
  | [d1, d2] => { results := [.lit (.bool true)], args := [d1, d2] }
  | _ => none }
def entryBitsRow : OpenClaim := { program := "ytjcibcnphdnfbaa", sum := "a85f6ceafc89478c3e236d98446821517cffaa0eccff1d2b59434f92cf053791", func := "millpond/millpondlaw06.EntryBits", spec := "entryBits", apart := false }
def EntryBitsSaid : Prop := entryBitsRow.holds Try.pinned (OpenSpec.ofChange entryBitsSpec)

/-- ITS FALSE NEIGHBOUR: 'it returns false'. Refute it at one input. -/
def entryBitsWrong : ChangeSpec := { name := "entryBits", fn := fun _ => fun
  | [d1, d2] => { results := [.lit (.bool false)], args := [d1, d2] }
  | _ => none }
def EntryBitsWrongFalsely : Prop := entryBitsRow.holds Try.pinned (OpenSpec.ofChange entryBitsWrong)

/-- 'millpondlaw06.EntryRest': WHATEVER THE INPUT: true; the input reads as it did. -/
def entryRestSpec : ChangeSpec := { name := "entryRest", fn := fun _ => fun
  | [d] => { results := [.lit (.bool true)], args := [d] }
  | _ => none }
def entryRestRow : OpenClaim := { program := "ytjcibcnphdnfbaa", sum := "a85f6ceafc89478c3e236d98446821517cffaa0eccff1d2b59434f92cf053791", func := "millpond/millpondlaw06.EntryRest", spec := "entryRest", apart := false }
def EntryRestSaid : Prop := entryRestRow.holds Try.pinned (OpenSpec.ofChange entryRestSpec)

/-- ITS FALSE NEIGHBOUR: 'it returns false'. Refute it at one input. -/
def entryRestWrong : ChangeSpec := { name := "entryRest", fn := fun _ => fun
  | [d] => { results := [.lit (.bool false)], args := [d] }
  | _ => none }
def EntryRestWrongFalsely : Prop := entryRestRow.holds Try.pinned (OpenSpec.ofChange entryRestWrong)

/- THE SECOND FORM. 'bulk': how many values and letters a reading holds, each counted each time it is reached (what is shared counts as often as it is met; a slice's spare places count too). A statement '..UptoSaid' is the law's where the arguments, and the package variables that the reading takes, are together of bulk at most 1048576: NARROWER than '..Said'. Prove '..Said' where nothing that the law and all that it calls make is longer than what came in: it says more and counts as full. Else prove '..UptoSaid'. A law counts once. -/
mutual
def uptoBulk {H : Type} : DataW H → Nat
  | .lit (.string bytes) => bytes.length + 1
  | .lit _ => 1
  | .nil => 1
  | .ptr d => uptoBulk d + 1
  | .slice elems spare => uptoBulkAll elems + uptoBulkAll spare + 1
  | .agg parts => uptoBulkAll parts + 1
  | .iface _ d => uptoBulk d + 1
  | .map entries => uptoBulkEntries entries + 1
  | .held _ => 1
def uptoBulkAll {H : Type} : List (DataW H) → Nat
  | [] => 0
  | d :: r => uptoBulk d + uptoBulkAll r
def uptoBulkEntries {H : Type} : List (Lit × DataW H) → Nat
  | [] => 0
  | x :: r => uptoBulkEntry x + uptoBulkEntries r
def uptoBulkEntry {H : Type} : Lit × DataW H → Nat
  | (.string bytes, d) => bytes.length + uptoBulk d + 1
  | (_, d) => uptoBulk d + 1
 end
def uptoSmall : (H : Type) → List (DataW H) → Bool := fun _ ds => decide (uptoBulkAll ds ≤ 1048576)
def OpenSpec.upto (s : _root_.Go.ChangeSpec) : _root_.Go.OpenSpec := { _root_.Go.OpenSpec.ofChange s with cond := some uptoSmall }

/-- 'millpondlaw06.EntryPacks', WHERE WHAT IT READS IS OF BULK AT MOST 1048576: true; the input reads as it did. -/
def entryPacksUptoRow : OpenClaim := { program := "ytjcibcnphdnfbaa", sum := "a85f6ceafc89478c3e236d98446821517cffaa0eccff1d2b59434f92cf053791", func := "millpond/millpondlaw06.EntryPacks", spec := "entryPacks", apart := false, narrowed := true }
def EntryPacksUptoSaid : Prop := entryPacksUptoRow.holds Try.pinned (OpenSpec.upto entryPacksSpec)

/-- 'millpondlaw06.EntryTurns', WHERE WHAT IT READS IS OF BULK AT MOST 1048576: true; the input reads as it did. -/
def entryTurnsUptoRow : OpenClaim := { program := "ytjcibcnphdnfbaa", sum := "a85f6ceafc89478c3e236d98446821517cffaa0eccff1d2b59434f92cf053791", func := "millpond/millpondlaw06.EntryTurns", spec := "entryTurns", apart := false, narrowed := true }
def EntryTurnsUptoSaid : Prop := entryTurnsUptoRow.holds Try.pinned (OpenSpec.upto entryTurnsSpec)

/-- 'millpondlaw06.EntryBack', WHERE WHAT IT READS IS OF BULK AT MOST 1048576: true; the input reads as it did. -/
def entryBackUptoRow : OpenClaim := { program := "ytjcibcnphdnfbaa", sum := "a85f6ceafc89478c3e236d98446821517cffaa0eccff1d2b59434f92cf053791", func := "millpond/millpondlaw06.EntryBack", spec := "entryBack", apart := false, narrowed := true }
def EntryBackUptoSaid : Prop := entryBackUptoRow.holds Try.pinned (OpenSpec.upto entryBackSpec)

/-- 'millpondlaw06.EntryOne', WHERE WHAT IT READS IS OF BULK AT MOST 1048576: true; the input reads as it did. -/
def entryOneUptoRow : OpenClaim := { program := "ytjcibcnphdnfbaa", sum := "a85f6ceafc89478c3e236d98446821517cffaa0eccff1d2b59434f92cf053791", func := "millpond/millpondlaw06.EntryOne", spec := "entryOne", apart := false, narrowed := true }
def EntryOneUptoSaid : Prop := entryOneUptoRow.holds Try.pinned (OpenSpec.upto entryOneSpec)

/-- 'millpondlaw06.EntryBits', WHERE WHAT IT READS IS OF BULK AT MOST 1048576: true; the input reads as it did. -/
def entryBitsUptoRow : OpenClaim := { program := "ytjcibcnphdnfbaa", sum := "a85f6ceafc89478c3e236d98446821517cffaa0eccff1d2b59434f92cf053791", func := "millpond/millpondlaw06.EntryBits", spec := "entryBits", apart := false, narrowed := true }
def EntryBitsUptoSaid : Prop := entryBitsUptoRow.holds Try.pinned (OpenSpec.upto entryBitsSpec)

/-- 'millpondlaw06.EntryRest', WHERE WHAT IT READS IS OF BULK AT MOST 1048576: true; the input reads as it did. -/
def entryRestUptoRow : OpenClaim := { program := "ytjcibcnphdnfbaa", sum := "a85f6ceafc89478c3e236d98446821517cffaa0eccff1d2b59434f92cf053791", func := "millpond/millpondlaw06.EntryRest", spec := "entryRest", apart := false, narrowed := true }
def EntryRestUptoSaid : Prop := entryRestUptoRow.holds Try.pinned (OpenSpec.upto entryRestSpec)

end Rows
end Go.Proofs.Ytjcibcnphdnfbaa
