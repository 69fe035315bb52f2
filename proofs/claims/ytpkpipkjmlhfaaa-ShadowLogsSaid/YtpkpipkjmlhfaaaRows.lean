/-
  No cell of these rows narrows 'for every input' (looked for: loops, veiled, ifaces, maps, wideKeys, modest, calm, conditions, laid).
  DERIVED. THE GIVEN ROWS OF THIS SEAT. 5 by the template 'for every input the law returns true; each argument reads behind the call as it read before'; 0 by the template 'total and deterministic' (their statements: YtpkpipkjmlhfaaaTotals.lean).
  GIVEN WITH THE SEED: the statements are not yours to turn. If you find one false, say at which input.
  Laid BY PROGRAM, IN A SANDBOX (cutbox-rows.mjs): the forced cells as the released guide's own fill.sh prints them over the translation f128e54d0e17d7d3… (all of the seat's roots in one cut). By AI agents, Wed Nov 11 2026. No macro, syntax, notation, axiom, sorry.
-/
import Derived.Test.YtpkpipkjmlhfaaaChecked
import GoSem.Claim
import GoSem.ClaimJoined
import GoSem.ClaimMapViews
import Derived.JoinedTies
import Derived.KernelRfl
namespace Go.Proofs.Ytpkpipkjmlhfaaa
/- THE CELL 'sum', in the pinned program and in every row, IS THE sha256 OF THE DUMP (.gsa) THAT YtpkpipkjmlhfaaaProg.lean LOADS. Nothing in Lean hashes anything: it is a label: what it is worth is what the hold of that sum in a sandbox is worth. -/
noncomputable def Try.pinned : Pinned := { name := "ytpkpipkjmlhfaaa", sum := "f128e54d0e17d7d37f7d9daaaaf5d17260f7af02a843d4a5d49b2d7b1a86b88a", checked := Try.checked }
namespace Rows
def none {H : Type} : Left H := { results := [], args := [] }

/-- 'millpondlaw13.ShadowMakes': WHATEVER THE INPUT: true; the input reads as it did. -/
def shadowMakesSpec : ChangeSpec := { name := "shadowMakes", fn := fun _ => fun
  | [d1, d2, d3, d4] => { results := [.lit (.bool true)], args := [d1, d2, d3, d4] }
  | _ => none }
def shadowMakesRow : OpenClaim := { program := "ytpkpipkjmlhfaaa", sum := "f128e54d0e17d7d37f7d9daaaaf5d17260f7af02a843d4a5d49b2d7b1a86b88a", func := "millpond/millpondlaw13.ShadowMakes", spec := "shadowMakes", apart := false }
def ShadowMakesSaid : Prop := shadowMakesRow.holds Try.pinned (OpenSpec.ofChange shadowMakesSpec)

/-- ITS FALSE NEIGHBOUR: 'it returns false'. Refute it at one input. -/
def shadowMakesWrong : ChangeSpec := { name := "shadowMakes", fn := fun _ => fun
  | [d1, d2, d3, d4] => { results := [.lit (.bool false)], args := [d1, d2, d3, d4] }
  | _ => none }
def ShadowMakesWrongFalsely : Prop := shadowMakesRow.holds Try.pinned (OpenSpec.ofChange shadowMakesWrong)

/-- 'millpondlaw13.ShadowLogs': WHATEVER THE INPUT: true; the input reads as it did. -/
def shadowLogsSpec : ChangeSpec := { name := "shadowLogs", fn := fun _ => fun
  | [d] => { results := [.lit (.bool true)], args := [d] }
  | _ => none }
def shadowLogsRow : OpenClaim := { program := "ytpkpipkjmlhfaaa", sum := "f128e54d0e17d7d37f7d9daaaaf5d17260f7af02a843d4a5d49b2d7b1a86b88a", func := "millpond/millpondlaw13.ShadowLogs", spec := "shadowLogs", apart := false }
def ShadowLogsSaid : Prop := shadowLogsRow.holds Try.pinned (OpenSpec.ofChange shadowLogsSpec)

/-- ITS FALSE NEIGHBOUR: 'it returns false'. Refute it at one input. -/
def shadowLogsWrong : ChangeSpec := { name := "shadowLogs", fn := fun _ => fun
  | [d] => { results := [.lit (.bool false)], args := [d] }
  | _ => none }
def ShadowLogsWrongFalsely : Prop := shadowLogsRow.holds Try.pinned (OpenSpec.ofChange shadowLogsWrong)

/-- 'millpondlaw13.ShadowBack': WHATEVER THE INPUT: true; the input reads as it did. -/
def shadowBackSpec : ChangeSpec := { name := "shadowBack", fn := fun _ => fun
  | [d1, d2, d3, d4] => { results := [.lit (.bool true)], args := [d1, d2, d3, d4] }
  | _ => none }
def shadowBackRow : OpenClaim := { program := "ytpkpipkjmlhfaaa", sum := "f128e54d0e17d7d37f7d9daaaaf5d17260f7af02a843d4a5d49b2d7b1a86b88a", func := "millpond/millpondlaw13.ShadowBack", spec := "shadowBack", apart := false }
def ShadowBackSaid : Prop := shadowBackRow.holds Try.pinned (OpenSpec.ofChange shadowBackSpec)

/-- ITS FALSE NEIGHBOUR: 'it returns false'. Refute it at one input. -/
def shadowBackWrong : ChangeSpec := { name := "shadowBack", fn := fun _ => fun
  | [d1, d2, d3, d4] => { results := [.lit (.bool false)], args := [d1, d2, d3, d4] }
  | _ => none }
def ShadowBackWrongFalsely : Prop := shadowBackRow.holds Try.pinned (OpenSpec.ofChange shadowBackWrong)

/-- 'millpondlaw13.ShadowClocks': WHATEVER THE INPUT: true; the input reads as it did. -/
def shadowClocksSpec : ChangeSpec := { name := "shadowClocks", fn := fun _ => fun
  | [d1, d2] => { results := [.lit (.bool true)], args := [d1, d2] }
  | _ => none }
def shadowClocksRow : OpenClaim := { program := "ytpkpipkjmlhfaaa", sum := "f128e54d0e17d7d37f7d9daaaaf5d17260f7af02a843d4a5d49b2d7b1a86b88a", func := "millpond/millpondlaw13.ShadowClocks", spec := "shadowClocks", apart := false }
def ShadowClocksSaid : Prop := shadowClocksRow.holds Try.pinned (OpenSpec.ofChange shadowClocksSpec)

/-- ITS FALSE NEIGHBOUR: 'it returns false'. Refute it at one input. -/
def shadowClocksWrong : ChangeSpec := { name := "shadowClocks", fn := fun _ => fun
  | [d1, d2] => { results := [.lit (.bool false)], args := [d1, d2] }
  | _ => none }
def ShadowClocksWrongFalsely : Prop := shadowClocksRow.holds Try.pinned (OpenSpec.ofChange shadowClocksWrong)

/-- 'millpondlaw13.ShadowNear': WHATEVER THE INPUT: true; the input reads as it did. -/
def shadowNearSpec : ChangeSpec := { name := "shadowNear", fn := fun _ => fun
  | [d1, d2, d3, d4] => { results := [.lit (.bool true)], args := [d1, d2, d3, d4] }
  | _ => none }
def shadowNearRow : OpenClaim := { program := "ytpkpipkjmlhfaaa", sum := "f128e54d0e17d7d37f7d9daaaaf5d17260f7af02a843d4a5d49b2d7b1a86b88a", func := "millpond/millpondlaw13.ShadowNear", spec := "shadowNear", apart := false }
def ShadowNearSaid : Prop := shadowNearRow.holds Try.pinned (OpenSpec.ofChange shadowNearSpec)

/-- ITS FALSE NEIGHBOUR: 'it returns false'. Refute it at one input. -/
def shadowNearWrong : ChangeSpec := { name := "shadowNear", fn := fun _ => fun
  | [d1, d2, d3, d4] => { results := [.lit (.bool false)], args := [d1, d2, d3, d4] }
  | _ => none }
def ShadowNearWrongFalsely : Prop := shadowNearRow.holds Try.pinned (OpenSpec.ofChange shadowNearWrong)

/- THE SECOND FORM. 'bulk': how many values and letters a reading holds, each counted each time it is reached (what is shared counts as often as it is met; a slice's spare places count too). A statement '..UptoSaid' is the law's where the arguments, and the package variables that the reading takes, are together of bulk at most 1048576: NARROWER than '..Said'. Prove '..Said' where nothing that the law and all that it calls make is longer than what came in: it says more and counts as full. Else prove '..UptoSaid'. A law counts once. -/
mutual
def uptoBulk {H : Type} : DataW H → Nat
  | .lit (.string bytes) => bytes.length + 1
  | .lit _ => 1
  | .nil => 1
  | .ptr d => uptoBulk d + 1
  | .slice elems spare => uptoBulkAll elems + uptoBulkAll spare + 1
  | .agg parts => uptoBulkAll parts + 1
  | .iface _ d => uptoBulk d + 1
  | .map entries => uptoBulkEntries entries + 1
  | .held _ => 1
def uptoBulkAll {H : Type} : List (DataW H) → Nat
  | [] => 0
  | d :: r => uptoBulk d + uptoBulkAll r
def uptoBulkEntries {H : Type} : List (Lit × DataW H) → Nat
  | [] => 0
  | x :: r => uptoBulkEntry x + uptoBulkEntries r
def uptoBulkEntry {H : Type} : Lit × DataW H → Nat
  | (.string bytes, d) => bytes.length + uptoBulk d + 1
  | (_, d) => uptoBulk d + 1
 end
def uptoSmall : (H : Type) → List (DataW H) → Bool := fun _ ds => decide (uptoBulkAll ds ≤ 1048576)
def OpenSpec.upto (s : _root_.Go.ChangeSpec) : _root_.Go.OpenSpec := { _root_.Go.OpenSpec.ofChange s with cond := some uptoSmall }

/-- 'millpondlaw13.ShadowMakes', WHERE WHAT IT READS IS OF BULK AT MOST 1048576: true; the input reads as it did. -/
def shadowMakesUptoRow : OpenClaim := { program := "ytpkpipkjmlhfaaa", sum := "f128e54d0e17d7d37f7d9daaaaf5d17260f7af02a843d4a5d49b2d7b1a86b88a", func := "millpond/millpondlaw13.ShadowMakes", spec := "shadowMakes", apart := false, narrowed := true }
def ShadowMakesUptoSaid : Prop := shadowMakesUptoRow.holds Try.pinned (OpenSpec.upto shadowMakesSpec)

/-- 'millpondlaw13.ShadowLogs', WHERE WHAT IT READS IS OF BULK AT MOST 1048576: true; the input reads as it did. -/
def shadowLogsUptoRow : OpenClaim := { program := "ytpkpipkjmlhfaaa", sum := "f128e54d0e17d7d37f7d9daaaaf5d17260f7af02a843d4a5d49b2d7b1a86b88a", func := "millpond/millpondlaw13.ShadowLogs", spec := "shadowLogs", apart := false, narrowed := true }
def ShadowLogsUptoSaid : Prop := shadowLogsUptoRow.holds Try.pinned (OpenSpec.upto shadowLogsSpec)

/-- 'millpondlaw13.ShadowBack', WHERE WHAT IT READS IS OF BULK AT MOST 1048576: true; the input reads as it did. -/
def shadowBackUptoRow : OpenClaim := { program := "ytpkpipkjmlhfaaa", sum := "f128e54d0e17d7d37f7d9daaaaf5d17260f7af02a843d4a5d49b2d7b1a86b88a", func := "millpond/millpondlaw13.ShadowBack", spec := "shadowBack", apart := false, narrowed := true }
def ShadowBackUptoSaid : Prop := shadowBackUptoRow.holds Try.pinned (OpenSpec.upto shadowBackSpec)

/-- 'millpondlaw13.ShadowClocks', WHERE WHAT IT READS IS OF BULK AT MOST 1048576: true; the input reads as it did. -/
def shadowClocksUptoRow : OpenClaim := { program := "ytpkpipkjmlhfaaa", sum := "f128e54d0e17d7d37f7d9daaaaf5d17260f7af02a843d4a5d49b2d7b1a86b88a", func := "millpond/millpondlaw13.ShadowClocks", spec := "shadowClocks", apart := false, narrowed := true }
def ShadowClocksUptoSaid : Prop := shadowClocksUptoRow.holds Try.pinned (OpenSpec.upto shadowClocksSpec)

/-- 'millpondlaw13.ShadowNear', WHERE WHAT IT READS IS OF BULK AT MOST 1048576: true; the input reads as it did. -/
def shadowNearUptoRow : OpenClaim := { program := "ytpkpipkjmlhfaaa", sum := "f128e54d0e17d7d37f7d9daaaaf5d17260f7af02a843d4a5d49b2d7b1a86b88a", func := "millpond/millpondlaw13.ShadowNear", spec := "shadowNear", apart := false, narrowed := true }
def ShadowNearUptoSaid : Prop := shadowNearUptoRow.holds Try.pinned (OpenSpec.upto shadowNearSpec)

end Rows
end Go.Proofs.Ytpkpipkjmlhfaaa
