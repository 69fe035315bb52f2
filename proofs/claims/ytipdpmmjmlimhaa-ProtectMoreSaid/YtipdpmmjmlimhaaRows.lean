/-
  No cell of these rows narrows 'for every input' (looked for: loops, veiled, ifaces, maps, wideKeys, modest, calm, conditions, laid).
  DERIVED. THE GIVEN ROWS OF THIS SEAT. 6 by the template 'for every input the law returns true; each argument reads behind the call as it read before'; 0 by the template 'total and deterministic' (their statements: YtipdpmmjmlimhaaTotals.lean).
  GIVEN WITH THE SEED: the statements are not yours to turn. If you find one false, say at which input.
  Laid BY PROGRAM, IN A SANDBOX (cutbox-rows.mjs): the forced cells as the released guide's own fill.sh prints them over the translation 9c4e3e2c9b32f745… (all of the seat's roots in one cut). By AI agents, Wed Nov 11 2026. No macro, syntax, notation, axiom, sorry.
-/
import Derived.Test.YtipdpmmjmlimhaaChecked
import GoSem.Claim
import GoSem.ClaimJoined
import GoSem.ClaimMapViews
import Derived.JoinedTies
import Derived.KernelRfl
namespace Go.Proofs.Ytipdpmmjmlimhaa
/- THE CELL 'sum', in the pinned program and in every row, IS THE sha256 OF THE DUMP (.gsa) THAT YtipdpmmjmlimhaaProg.lean LOADS. Nothing in Lean hashes anything: it is a label: what it is worth is what the hold of that sum in a sandbox is worth. -/
noncomputable def Try.pinned : Pinned := { name := "ytipdpmmjmlimhaa", sum := "9c4e3e2c9b32f7450246ff385d9b4e6e9630104789d0bfffceeeac35d61f5c21", checked := Try.checked }
namespace Rows
def none {H : Type} : Left H := { results := [], args := [] }

/-- 'millpondlaw10.ProtectEffective': WHATEVER THE INPUT: true; the input reads as it did. -/
def protectEffectiveSpec : ChangeSpec := { name := "protectEffective", fn := fun _ => fun
  | [d1, d2] => { results := [.lit (.bool true)], args := [d1, d2] }
  | _ => none }
def protectEffectiveRow : OpenClaim := { program := "ytipdpmmjmlimhaa", sum := "9c4e3e2c9b32f7450246ff385d9b4e6e9630104789d0bfffceeeac35d61f5c21", func := "millpond/millpondlaw10.ProtectEffective", spec := "protectEffective", unfollowed := true, recurses := true, named := ["math/bits.divideError", "math/bits.overflowError"], apart := false }
def ProtectEffectiveSaid : Prop := protectEffectiveRow.holds Try.pinned (OpenSpec.ofChange protectEffectiveSpec)

/-- ITS FALSE NEIGHBOUR: 'it returns false'. Refute it at one input. -/
def protectEffectiveWrong : ChangeSpec := { name := "protectEffective", fn := fun _ => fun
  | [d1, d2] => { results := [.lit (.bool false)], args := [d1, d2] }
  | _ => none }
def ProtectEffectiveWrongFalsely : Prop := protectEffectiveRow.holds Try.pinned (OpenSpec.ofChange protectEffectiveWrong)

/-- 'millpondlaw10.ProtectHeld': WHATEVER THE INPUT: true; the input reads as it did. -/
def protectHeldSpec : ChangeSpec := { name := "protectHeld", fn := fun _ => fun
  | [d1, d2, d3, d4] => { results := [.lit (.bool true)], args := [d1, d2, d3, d4] }
  | _ => none }
def protectHeldRow : OpenClaim := { program := "ytipdpmmjmlimhaa", sum := "9c4e3e2c9b32f7450246ff385d9b4e6e9630104789d0bfffceeeac35d61f5c21", func := "millpond/millpondlaw10.ProtectHeld", spec := "protectHeld", unfollowed := true, recurses := true, named := ["math/bits.divideError", "math/bits.overflowError"], apart := false }
def ProtectHeldSaid : Prop := protectHeldRow.holds Try.pinned (OpenSpec.ofChange protectHeldSpec)

/-- ITS FALSE NEIGHBOUR: 'it returns false'. Refute it at one input. -/
def protectHeldWrong : ChangeSpec := { name := "protectHeld", fn := fun _ => fun
  | [d1, d2, d3, d4] => { results := [.lit (.bool false)], args := [d1, d2, d3, d4] }
  | _ => none }
def ProtectHeldWrongFalsely : Prop := protectHeldRow.holds Try.pinned (OpenSpec.ofChange protectHeldWrong)

/-- 'millpondlaw10.ProtectSums': WHATEVER THE INPUT: true; the input reads as it did. -/
def protectSumsSpec : ChangeSpec := { name := "protectSums", fn := fun _ => fun
  | [d1, d2] => { results := [.lit (.bool true)], args := [d1, d2] }
  | _ => none }
def protectSumsRow : OpenClaim := { program := "ytipdpmmjmlimhaa", sum := "9c4e3e2c9b32f7450246ff385d9b4e6e9630104789d0bfffceeeac35d61f5c21", func := "millpond/millpondlaw10.ProtectSums", spec := "protectSums", unfollowed := true, recurses := true, named := ["math/bits.divideError", "math/bits.overflowError"], apart := false }
def ProtectSumsSaid : Prop := protectSumsRow.holds Try.pinned (OpenSpec.ofChange protectSumsSpec)

/-- ITS FALSE NEIGHBOUR: 'it returns false'. Refute it at one input. -/
def protectSumsWrong : ChangeSpec := { name := "protectSums", fn := fun _ => fun
  | [d1, d2] => { results := [.lit (.bool false)], args := [d1, d2] }
  | _ => none }
def ProtectSumsWrongFalsely : Prop := protectSumsRow.holds Try.pinned (OpenSpec.ofChange protectSumsWrong)

/-- 'millpondlaw10.ProtectMore': WHATEVER THE INPUT: true; the input reads as it did. -/
def protectMoreSpec : ChangeSpec := { name := "protectMore", fn := fun _ => fun
  | [d1, d2, d3, d4] => { results := [.lit (.bool true)], args := [d1, d2, d3, d4] }
  | _ => none }
def protectMoreRow : OpenClaim := { program := "ytipdpmmjmlimhaa", sum := "9c4e3e2c9b32f7450246ff385d9b4e6e9630104789d0bfffceeeac35d61f5c21", func := "millpond/millpondlaw10.ProtectMore", spec := "protectMore", unfollowed := true, recurses := true, named := ["math/bits.divideError", "math/bits.overflowError"], apart := false }
def ProtectMoreSaid : Prop := protectMoreRow.holds Try.pinned (OpenSpec.ofChange protectMoreSpec)

/-- ITS FALSE NEIGHBOUR: 'it returns false'. Refute it at one input. -/
def protectMoreWrong : ChangeSpec := { name := "protectMore", fn := fun _ => fun
  | [d1, d2, d3, d4] => { results := [.lit (.bool false)], args := [d1, d2, d3, d4] }
  | _ => none }
def ProtectMoreWrongFalsely : Prop := protectMoreRow.holds Try.pinned (OpenSpec.ofChange protectMoreWrong)

/-- 'millpondlaw10.ProtectNone': WHATEVER THE INPUT: true; the input reads as it did. -/
def protectNoneSpec : ChangeSpec := { name := "protectNone", fn := fun _ => fun
  | [d1, d2] => { results := [.lit (.bool true)], args := [d1, d2] }
  | _ => none }
def protectNoneRow : OpenClaim := { program := "ytipdpmmjmlimhaa", sum := "9c4e3e2c9b32f7450246ff385d9b4e6e9630104789d0bfffceeeac35d61f5c21", func := "millpond/millpondlaw10.ProtectNone", spec := "protectNone", unfollowed := true, recurses := true, named := ["math/bits.divideError", "math/bits.overflowError"], apart := false }
def ProtectNoneSaid : Prop := protectNoneRow.holds Try.pinned (OpenSpec.ofChange protectNoneSpec)

/-- ITS FALSE NEIGHBOUR: 'it returns false'. Refute it at one input. -/
def protectNoneWrong : ChangeSpec := { name := "protectNone", fn := fun _ => fun
  | [d1, d2] => { results := [.lit (.bool false)], args := [d1, d2] }
  | _ => none }
def ProtectNoneWrongFalsely : Prop := protectNoneRow.holds Try.pinned (OpenSpec.ofChange protectNoneWrong)

/-- 'millpondlaw10.ProtectTarget': WHATEVER THE INPUT: true; the input reads as it did. -/
def protectTargetSpec : ChangeSpec := { name := "protectTarget", fn := fun _ => fun
  | [d1, d2, d3, d4] => { results := [.lit (.bool true)], args := [d1, d2, d3, d4] }
  | _ => none }
def protectTargetRow : OpenClaim := { program := "ytipdpmmjmlimhaa", sum := "9c4e3e2c9b32f7450246ff385d9b4e6e9630104789d0bfffceeeac35d61f5c21", func := "millpond/millpondlaw10.ProtectTarget", spec := "protectTarget", unfollowed := true, recurses := true, named := ["math/bits.divideError", "math/bits.overflowError"], apart := false }
def ProtectTargetSaid : Prop := protectTargetRow.holds Try.pinned (OpenSpec.ofChange protectTargetSpec)

/-- ITS FALSE NEIGHBOUR: 'it returns false'. Refute it at one input. -/
def protectTargetWrong : ChangeSpec := { name := "protectTarget", fn := fun _ => fun
  | [d1, d2, d3, d4] => { results := [.lit (.bool false)], args := [d1, d2, d3, d4] }
  | _ => none }
def ProtectTargetWrongFalsely : Prop := protectTargetRow.holds Try.pinned (OpenSpec.ofChange protectTargetWrong)

/- THE SECOND FORM. 'bulk': how many values and letters a reading holds, each counted each time it is reached (what is shared counts as often as it is met; a slice's spare places count too). A statement '..UptoSaid' is the law's where the arguments, and the package variables that the reading takes, are together of bulk at most 1048576: NARROWER than '..Said'. Prove '..Said' where nothing that the law and all that it calls make is longer than what came in: it says more and counts as full. Else prove '..UptoSaid'. A law counts once. -/
mutual
def uptoBulk {H : Type} : DataW H → Nat
  | .lit (.string bytes) => bytes.length + 1
  | .lit _ => 1
  | .nil => 1
  | .ptr d => uptoBulk d + 1
  | .slice elems spare => uptoBulkAll elems + uptoBulkAll spare + 1
  | .agg parts => uptoBulkAll parts + 1
  | .iface _ d => uptoBulk d + 1
  | .map entries => uptoBulkEntries entries + 1
  | .held _ => 1
def uptoBulkAll {H : Type} : List (DataW H) → Nat
  | [] => 0
  | d :: r => uptoBulk d + uptoBulkAll r
def uptoBulkEntries {H : Type} : List (Lit × DataW H) → Nat
  | [] => 0
  | x :: r => uptoBulkEntry x + uptoBulkEntries r
def uptoBulkEntry {H : Type} : Lit × DataW H → Nat
  | (.string bytes, d) => bytes.length + uptoBulk d + 1
  | (_, d) => uptoBulk d + 1
 end
def uptoSmall : (H : Type) → List (DataW H) → Bool := fun _ ds => decide (uptoBulkAll ds ≤ 1048576)
def OpenSpec.upto (s : _root_.Go.ChangeSpec) : _root_.Go.OpenSpec := { _root_.Go.OpenSpec.ofChange s with cond := some uptoSmall }

/-- 'millpondlaw10.ProtectEffective', WHERE WHAT IT READS IS OF BULK AT MOST 1048576: true; the input reads as it did. -/
def protectEffectiveUptoRow : OpenClaim := { program := "ytipdpmmjmlimhaa", sum := "9c4e3e2c9b32f7450246ff385d9b4e6e9630104789d0bfffceeeac35d61f5c21", func := "millpond/millpondlaw10.ProtectEffective", spec := "protectEffective", unfollowed := true, recurses := true, named := ["math/bits.divideError", "math/bits.overflowError"], apart := false, narrowed := true }
def ProtectEffectiveUptoSaid : Prop := protectEffectiveUptoRow.holds Try.pinned (OpenSpec.upto protectEffectiveSpec)

/-- 'millpondlaw10.ProtectHeld', WHERE WHAT IT READS IS OF BULK AT MOST 1048576: true; the input reads as it did. -/
def protectHeldUptoRow : OpenClaim := { program := "ytipdpmmjmlimhaa", sum := "9c4e3e2c9b32f7450246ff385d9b4e6e9630104789d0bfffceeeac35d61f5c21", func := "millpond/millpondlaw10.ProtectHeld", spec := "protectHeld", unfollowed := true, recurses := true, named := ["math/bits.divideError", "math/bits.overflowError"], apart := false, narrowed := true }
def ProtectHeldUptoSaid : Prop := protectHeldUptoRow.holds Try.pinned (OpenSpec.upto protectHeldSpec)

/-- 'millpondlaw10.ProtectSums', WHERE WHAT IT READS IS OF BULK AT MOST 1048576: true; the input reads as it did. -/
def protectSumsUptoRow : OpenClaim := { program := "ytipdpmmjmlimhaa", sum := "9c4e3e2c9b32f7450246ff385d9b4e6e9630104789d0bfffceeeac35d61f5c21", func := "millpond/millpondlaw10.ProtectSums", spec := "protectSums", unfollowed := true, recurses := true, named := ["math/bits.divideError", "math/bits.overflowError"], apart := false, narrowed := true }
def ProtectSumsUptoSaid : Prop := protectSumsUptoRow.holds Try.pinned (OpenSpec.upto protectSumsSpec)

/-- 'millpondlaw10.ProtectMore', WHERE WHAT IT READS IS OF BULK AT MOST 1048576: true; the input reads as it did. -/
def protectMoreUptoRow : OpenClaim := { program := "ytipdpmmjmlimhaa", sum := "9c4e3e2c9b32f7450246ff385d9b4e6e9630104789d0bfffceeeac35d61f5c21", func := "millpond/millpondlaw10.ProtectMore", spec := "protectMore", unfollowed := true, recurses := true, named := ["math/bits.divideError", "math/bits.overflowError"], apart := false, narrowed := true }
def ProtectMoreUptoSaid : Prop := protectMoreUptoRow.holds Try.pinned (OpenSpec.upto protectMoreSpec)

/-- 'millpondlaw10.ProtectNone', WHERE WHAT IT READS IS OF BULK AT MOST 1048576: true; the input reads as it did. -/
def protectNoneUptoRow : OpenClaim := { program := "ytipdpmmjmlimhaa", sum := "9c4e3e2c9b32f7450246ff385d9b4e6e9630104789d0bfffceeeac35d61f5c21", func := "millpond/millpondlaw10.ProtectNone", spec := "protectNone", unfollowed := true, recurses := true, named := ["math/bits.divideError", "math/bits.overflowError"], apart := false, narrowed := true }
def ProtectNoneUptoSaid : Prop := protectNoneUptoRow.holds Try.pinned (OpenSpec.upto protectNoneSpec)

/-- 'millpondlaw10.ProtectTarget', WHERE WHAT IT READS IS OF BULK AT MOST 1048576: true; the input reads as it did. -/
def protectTargetUptoRow : OpenClaim := { program := "ytipdpmmjmlimhaa", sum := "9c4e3e2c9b32f7450246ff385d9b4e6e9630104789d0bfffceeeac35d61f5c21", func := "millpond/millpondlaw10.ProtectTarget", spec := "protectTarget", unfollowed := true, recurses := true, named := ["math/bits.divideError", "math/bits.overflowError"], apart := false, narrowed := true }
def ProtectTargetUptoSaid : Prop := protectTargetUptoRow.holds Try.pinned (OpenSpec.upto protectTargetSpec)

end Rows
end Go.Proofs.Ytipdpmmjmlimhaa
