/-
  DERIVED. GIVEN WITH THE SEED: THE CARDS: each row of YtjampfcibocnlaaDoorRows.lean that lists a variable, with what it lists TIED to the program's text (the seventh form; the later family's looks); each row that meets fmt, with fmt's text TOLD by the authors' own Lean function (tested against real Go, not proved from fmt's source: count such statements apart). THE CARD IS WHAT COUNTS. Prove the row's statement (the work); the ties are given (YtjampfcibocnlaaDoorTie.lean); close each card by the builder's one call (the guide's Derived/Test/ToyasCard.lean, 'card_holds'). Laid BY PROGRAM, IN A SANDBOX (cutbox-door.mjs). By AI agents, Wed Nov 11 2026. No macro, syntax, notation, axiom, sorry.
-/
import Derived.Test.YtjampfcibocnlaaDoorRows
import GoSem.ClaimSeven
namespace Go.Proofs.YtjampfcibocnlaaDoor
namespace Rows

/-- THE TIED CARD OF 'millpondlaw01.BitsSets'. -/
def bitsSetsCard : Claim7 := { stood := { row := bitsSetsRow, standIns := [], harness := (true, "6fc6943a87724a0f3073b07e2e4b4dcd9c9d483eb632f163f8f8267f547dc0d4"), looks := false }, kinds := [], alts := [], laidByText := true, laidKinds := [.data], laidTests := true, laidLooks := .later }
def BitsSetsCardSaid : Prop := Claim7.holds Tryd.pinned (.plain (OpenSpec.ofChange bitsSetsSpec)) bitsSetsCard

/-- THE TIED CARD OF 'millpondlaw01.BitsPacks'. -/
def bitsPacksCard : Claim7 := { stood := { row := bitsPacksRow, standIns := [], harness := (true, "6fc6943a87724a0f3073b07e2e4b4dcd9c9d483eb632f163f8f8267f547dc0d4"), looks := false }, kinds := [], alts := [], laidByText := true, laidKinds := [.data], laidTests := true, laidLooks := .later }
def BitsPacksCardSaid : Prop := Claim7.holds Tryd.pinned (.plain (OpenSpec.ofChange bitsPacksSpec)) bitsPacksCard

/-- THE TIED CARD OF 'millpondlaw01.BitsDigits'. -/
def bitsDigitsCard : Claim7 := { stood := { row := bitsDigitsRow, standIns := [], harness := (true, "6fc6943a87724a0f3073b07e2e4b4dcd9c9d483eb632f163f8f8267f547dc0d4"), looks := false }, kinds := [], alts := [], laidByText := true, laidKinds := [.data], laidTests := true, laidLooks := .later }
def BitsDigitsCardSaid : Prop := Claim7.holds Tryd.pinned (.plain (OpenSpec.ofChange bitsDigitsSpec)) bitsDigitsCard

/-- THE TIED CARD OF 'millpondlaw01.BitsBack'. -/
def bitsBackCard : Claim7 := { stood := { row := bitsBackRow, standIns := [], harness := (true, "6fc6943a87724a0f3073b07e2e4b4dcd9c9d483eb632f163f8f8267f547dc0d4"), looks := false }, kinds := [], alts := [], laidByText := true, laidKinds := [.data], laidTests := true, laidLooks := .later }
def BitsBackCardSaid : Prop := Claim7.holds Tryd.pinned (.plain (OpenSpec.ofChange bitsBackSpec)) bitsBackCard

/-- THE TIED CARD OF 'millpondlaw01.BitsNext'. -/
def bitsNextCard : Claim7 := { stood := { row := bitsNextRow, standIns := [], harness := (true, "6fc6943a87724a0f3073b07e2e4b4dcd9c9d483eb632f163f8f8267f547dc0d4"), looks := false }, kinds := [], alts := [], laidByText := true, laidKinds := [.data], laidTests := true, laidLooks := .later }
def BitsNextCardSaid : Prop := Claim7.holds Tryd.pinned (.plain (OpenSpec.ofChange bitsNextSpec)) bitsNextCard

/-- THE TIED CARD OF 'millpondlaw01.BitsSet'. -/
def bitsSetCard : Claim7 := { stood := { row := bitsSetRow, standIns := [], harness := (true, "6fc6943a87724a0f3073b07e2e4b4dcd9c9d483eb632f163f8f8267f547dc0d4"), looks := false }, kinds := [], alts := [], laidByText := true, laidKinds := [.data], laidTests := true, laidLooks := .later }
def BitsSetCardSaid : Prop := Claim7.holds Tryd.pinned (.plain (OpenSpec.ofChange bitsSetSpec)) bitsSetCard

/-- THE TIED CARD OF 'millpondlaw01.BitsFields'. -/
def bitsFieldsCard : Claim7 := { stood := { row := bitsFieldsRow, standIns := [], harness := (true, "6fc6943a87724a0f3073b07e2e4b4dcd9c9d483eb632f163f8f8267f547dc0d4"), looks := false }, kinds := [], alts := [], laidByText := true, laidKinds := [.data], laidTests := true, laidLooks := .later }
def BitsFieldsCardSaid : Prop := Claim7.holds Tryd.pinned (.plain (OpenSpec.ofChange bitsFieldsSpec)) bitsFieldsCard

/-- THE TIED CARD OF 'millpondlaw01.BitsJoins'. -/
def bitsJoinsCard : Claim7 := { stood := { row := bitsJoinsRow, standIns := [], harness := (true, "6fc6943a87724a0f3073b07e2e4b4dcd9c9d483eb632f163f8f8267f547dc0d4"), looks := false }, kinds := [], alts := [], laidByText := true, laidKinds := [.data], laidTests := true, laidLooks := .later }
def BitsJoinsCardSaid : Prop := Claim7.holds Tryd.pinned (.plain (OpenSpec.ofChange bitsJoinsSpec)) bitsJoinsCard

/-- THE SECOND FORM's CARD OF 'millpondlaw01.BitsSets'. -/
def bitsSetsUptoCard : Claim7 := { stood := { row := bitsSetsUptoRow, standIns := [], harness := (true, "6fc6943a87724a0f3073b07e2e4b4dcd9c9d483eb632f163f8f8267f547dc0d4"), looks := false }, kinds := [], alts := [], laidByText := true, laidKinds := [.data], laidTests := true, laidLooks := .later }
def BitsSetsUptoCardSaid : Prop := Claim7.holds Tryd.pinned (.plain (OpenSpec.upto bitsSetsSpec)) bitsSetsUptoCard

/-- THE SECOND FORM's CARD OF 'millpondlaw01.BitsPacks'. -/
def bitsPacksUptoCard : Claim7 := { stood := { row := bitsPacksUptoRow, standIns := [], harness := (true, "6fc6943a87724a0f3073b07e2e4b4dcd9c9d483eb632f163f8f8267f547dc0d4"), looks := false }, kinds := [], alts := [], laidByText := true, laidKinds := [.data], laidTests := true, laidLooks := .later }
def BitsPacksUptoCardSaid : Prop := Claim7.holds Tryd.pinned (.plain (OpenSpec.upto bitsPacksSpec)) bitsPacksUptoCard

/-- THE SECOND FORM's CARD OF 'millpondlaw01.BitsDigits'. -/
def bitsDigitsUptoCard : Claim7 := { stood := { row := bitsDigitsUptoRow, standIns := [], harness := (true, "6fc6943a87724a0f3073b07e2e4b4dcd9c9d483eb632f163f8f8267f547dc0d4"), looks := false }, kinds := [], alts := [], laidByText := true, laidKinds := [.data], laidTests := true, laidLooks := .later }
def BitsDigitsUptoCardSaid : Prop := Claim7.holds Tryd.pinned (.plain (OpenSpec.upto bitsDigitsSpec)) bitsDigitsUptoCard

/-- THE SECOND FORM's CARD OF 'millpondlaw01.BitsBack'. -/
def bitsBackUptoCard : Claim7 := { stood := { row := bitsBackUptoRow, standIns := [], harness := (true, "6fc6943a87724a0f3073b07e2e4b4dcd9c9d483eb632f163f8f8267f547dc0d4"), looks := false }, kinds := [], alts := [], laidByText := true, laidKinds := [.data], laidTests := true, laidLooks := .later }
def BitsBackUptoCardSaid : Prop := Claim7.holds Tryd.pinned (.plain (OpenSpec.upto bitsBackSpec)) bitsBackUptoCard

/-- THE SECOND FORM's CARD OF 'millpondlaw01.BitsNext'. -/
def bitsNextUptoCard : Claim7 := { stood := { row := bitsNextUptoRow, standIns := [], harness := (true, "6fc6943a87724a0f3073b07e2e4b4dcd9c9d483eb632f163f8f8267f547dc0d4"), looks := false }, kinds := [], alts := [], laidByText := true, laidKinds := [.data], laidTests := true, laidLooks := .later }
def BitsNextUptoCardSaid : Prop := Claim7.holds Tryd.pinned (.plain (OpenSpec.upto bitsNextSpec)) bitsNextUptoCard

/-- THE SECOND FORM's CARD OF 'millpondlaw01.BitsSet'. -/
def bitsSetUptoCard : Claim7 := { stood := { row := bitsSetUptoRow, standIns := [], harness := (true, "6fc6943a87724a0f3073b07e2e4b4dcd9c9d483eb632f163f8f8267f547dc0d4"), looks := false }, kinds := [], alts := [], laidByText := true, laidKinds := [.data], laidTests := true, laidLooks := .later }
def BitsSetUptoCardSaid : Prop := Claim7.holds Tryd.pinned (.plain (OpenSpec.upto bitsSetSpec)) bitsSetUptoCard

/-- THE SECOND FORM's CARD OF 'millpondlaw01.BitsFields'. -/
def bitsFieldsUptoCard : Claim7 := { stood := { row := bitsFieldsUptoRow, standIns := [], harness := (true, "6fc6943a87724a0f3073b07e2e4b4dcd9c9d483eb632f163f8f8267f547dc0d4"), looks := false }, kinds := [], alts := [], laidByText := true, laidKinds := [.data], laidTests := true, laidLooks := .later }
def BitsFieldsUptoCardSaid : Prop := Claim7.holds Tryd.pinned (.plain (OpenSpec.upto bitsFieldsSpec)) bitsFieldsUptoCard

/-- THE SECOND FORM's CARD OF 'millpondlaw01.BitsJoins'. -/
def bitsJoinsUptoCard : Claim7 := { stood := { row := bitsJoinsUptoRow, standIns := [], harness := (true, "6fc6943a87724a0f3073b07e2e4b4dcd9c9d483eb632f163f8f8267f547dc0d4"), looks := false }, kinds := [], alts := [], laidByText := true, laidKinds := [.data], laidTests := true, laidLooks := .later }
def BitsJoinsUptoCardSaid : Prop := Claim7.holds Tryd.pinned (.plain (OpenSpec.upto bitsJoinsSpec)) bitsJoinsUptoCard
end Rows
end Go.Proofs.YtjampfcibocnlaaDoor
