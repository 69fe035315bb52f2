/-
  DERIVED. GIVEN WITH THE SEED: THE CARDS: each row of YtafcmeoidcgmdaaDoorRows.lean that lists a variable, with what it lists TIED to the program's text (the seventh form; the later family's looks); each row that meets fmt, with fmt's text TOLD by the authors' own Lean function (tested against real Go, not proved from fmt's source: count such statements apart). THE CARD IS WHAT COUNTS. Prove the row's statement (the work); the ties are given (YtafcmeoidcgmdaaDoorTie.lean); close each card by the builder's one call (the guide's Derived/Test/ToyasCard.lean, 'card_holds'). Laid BY PROGRAM, IN A SANDBOX (cutbox-door.mjs). By AI agents, Wed Nov 11 2026. No macro, syntax, notation, axiom, sorry.
-/
import Derived.Test.YtafcmeoidcgmdaaDoorRows
import GoSem.ClaimSeven
namespace Go.Proofs.YtafcmeoidcgmdaaDoor
namespace Rows

/-- THE TIED CARD OF 'millpondlaw02.PoolDoes'. -/
def poolDoesCard : Claim7 := { stood := { row := poolDoesRow, standIns := [], harness := (true, "8a3367dd620b9185de2565ba805cc00e26ecb301bf45781c012952b74cf2df49"), looks := false }, kinds := [], alts := [], laidByText := true, laidKinds := [.data], laidTests := true, laidLooks := .later }
def PoolDoesCardSaid : Prop := Claim7.holds Tryd.pinned (.plain (OpenSpec.ofChange poolDoesSpec)) poolDoesCard

/-- THE TIED CARD OF 'millpondlaw02.PoolOnce'. -/
def poolOnceCard : Claim7 := { stood := { row := poolOnceRow, standIns := [], harness := (true, "8a3367dd620b9185de2565ba805cc00e26ecb301bf45781c012952b74cf2df49"), looks := false }, kinds := [], alts := [], laidByText := true, laidKinds := [.data], laidTests := true, laidLooks := .later }
def PoolOnceCardSaid : Prop := Claim7.holds Tryd.pinned (.plain (OpenSpec.ofChange poolOnceSpec)) poolOnceCard

/-- THE TIED CARD OF 'millpondlaw02.PoolRuns'. -/
def poolRunsCard : Claim7 := { stood := { row := poolRunsRow, standIns := [], harness := (true, "8a3367dd620b9185de2565ba805cc00e26ecb301bf45781c012952b74cf2df49"), looks := false }, kinds := [], alts := [], laidByText := true, laidKinds := [.data], laidTests := true, laidLooks := .later }
def PoolRunsCardSaid : Prop := Claim7.holds Tryd.pinned (.plain (OpenSpec.ofChange poolRunsSpec)) poolRunsCard

/-- THE TIED CARD OF 'millpondlaw02.PoolLeast'. -/
def poolLeastCard : Claim7 := { stood := { row := poolLeastRow, standIns := [], harness := (true, "8a3367dd620b9185de2565ba805cc00e26ecb301bf45781c012952b74cf2df49"), looks := false }, kinds := [], alts := [], laidByText := true, laidKinds := [.data], laidTests := true, laidLooks := .later }
def PoolLeastCardSaid : Prop := Claim7.holds Tryd.pinned (.plain (OpenSpec.ofChange poolLeastSpec)) poolLeastCard

/-- THE TIED CARD OF 'millpondlaw02.PoolLevels'. -/
def poolLevelsCard : Claim7 := { stood := { row := poolLevelsRow, standIns := [], harness := (true, "8a3367dd620b9185de2565ba805cc00e26ecb301bf45781c012952b74cf2df49"), looks := false }, kinds := [], alts := [], laidByText := true, laidKinds := [.data], laidTests := true, laidLooks := .later }
def PoolLevelsCardSaid : Prop := Claim7.holds Tryd.pinned (.plain (OpenSpec.ofChange poolLevelsSpec)) poolLevelsCard

/-- THE TIED CARD OF 'millpondlaw02.PoolWhole'. -/
def poolWholeCard : Claim7 := { stood := { row := poolWholeRow, standIns := [], harness := (true, "8a3367dd620b9185de2565ba805cc00e26ecb301bf45781c012952b74cf2df49"), looks := false }, kinds := [], alts := [], laidByText := true, laidKinds := [.data], laidTests := true, laidLooks := .later }
def PoolWholeCardSaid : Prop := Claim7.holds Tryd.pinned (.plain (OpenSpec.ofChange poolWholeSpec)) poolWholeCard

/-- THE SECOND FORM's CARD OF 'millpondlaw02.PoolDoes'. -/
def poolDoesUptoCard : Claim7 := { stood := { row := poolDoesUptoRow, standIns := [], harness := (true, "8a3367dd620b9185de2565ba805cc00e26ecb301bf45781c012952b74cf2df49"), looks := false }, kinds := [], alts := [], laidByText := true, laidKinds := [.data], laidTests := true, laidLooks := .later }
def PoolDoesUptoCardSaid : Prop := Claim7.holds Tryd.pinned (.plain (OpenSpec.upto poolDoesSpec)) poolDoesUptoCard

/-- THE SECOND FORM's CARD OF 'millpondlaw02.PoolOnce'. -/
def poolOnceUptoCard : Claim7 := { stood := { row := poolOnceUptoRow, standIns := [], harness := (true, "8a3367dd620b9185de2565ba805cc00e26ecb301bf45781c012952b74cf2df49"), looks := false }, kinds := [], alts := [], laidByText := true, laidKinds := [.data], laidTests := true, laidLooks := .later }
def PoolOnceUptoCardSaid : Prop := Claim7.holds Tryd.pinned (.plain (OpenSpec.upto poolOnceSpec)) poolOnceUptoCard

/-- THE SECOND FORM's CARD OF 'millpondlaw02.PoolRuns'. -/
def poolRunsUptoCard : Claim7 := { stood := { row := poolRunsUptoRow, standIns := [], harness := (true, "8a3367dd620b9185de2565ba805cc00e26ecb301bf45781c012952b74cf2df49"), looks := false }, kinds := [], alts := [], laidByText := true, laidKinds := [.data], laidTests := true, laidLooks := .later }
def PoolRunsUptoCardSaid : Prop := Claim7.holds Tryd.pinned (.plain (OpenSpec.upto poolRunsSpec)) poolRunsUptoCard

/-- THE SECOND FORM's CARD OF 'millpondlaw02.PoolLeast'. -/
def poolLeastUptoCard : Claim7 := { stood := { row := poolLeastUptoRow, standIns := [], harness := (true, "8a3367dd620b9185de2565ba805cc00e26ecb301bf45781c012952b74cf2df49"), looks := false }, kinds := [], alts := [], laidByText := true, laidKinds := [.data], laidTests := true, laidLooks := .later }
def PoolLeastUptoCardSaid : Prop := Claim7.holds Tryd.pinned (.plain (OpenSpec.upto poolLeastSpec)) poolLeastUptoCard

/-- THE SECOND FORM's CARD OF 'millpondlaw02.PoolLevels'. -/
def poolLevelsUptoCard : Claim7 := { stood := { row := poolLevelsUptoRow, standIns := [], harness := (true, "8a3367dd620b9185de2565ba805cc00e26ecb301bf45781c012952b74cf2df49"), looks := false }, kinds := [], alts := [], laidByText := true, laidKinds := [.data], laidTests := true, laidLooks := .later }
def PoolLevelsUptoCardSaid : Prop := Claim7.holds Tryd.pinned (.plain (OpenSpec.upto poolLevelsSpec)) poolLevelsUptoCard

/-- THE SECOND FORM's CARD OF 'millpondlaw02.PoolWhole'. -/
def poolWholeUptoCard : Claim7 := { stood := { row := poolWholeUptoRow, standIns := [], harness := (true, "8a3367dd620b9185de2565ba805cc00e26ecb301bf45781c012952b74cf2df49"), looks := false }, kinds := [], alts := [], laidByText := true, laidKinds := [.data], laidTests := true, laidLooks := .later }
def PoolWholeUptoCardSaid : Prop := Claim7.holds Tryd.pinned (.plain (OpenSpec.upto poolWholeSpec)) poolWholeUptoCard
end Rows
end Go.Proofs.YtafcmeoidcgmdaaDoor
