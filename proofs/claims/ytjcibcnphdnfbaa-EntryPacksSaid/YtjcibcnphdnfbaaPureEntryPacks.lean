/- Packing and unpacking are as the reference says: in plain numbers, for every entry and word. -/
import Derived.Test.YtjcibcnphdnfbaaFEntryPacks
import Derived.Test.YtjcibcnphdnfbaaLib2
namespace Go.Proofs.Ytjcibcnphdnfbaa.Pure
open Go.RowKit Go.Proofs.Ytjcibcnphdnfbaa.PEntryTurns Go.Proofs.YtjcibcnphdnfbaaW.PrintWords Go.Proofs.YtjcibcnphdnfbaaW.PrintLast Go.Proofs.YtjcibcnphdnfbaaW.PrintMore
set_option linter.unusedVariables false
set_option linter.unusedSimpArgs false
theorem EntryPacks (k p : Int) (w t : Bool) (x : Int) (hk : -9223372036854775808 ≤ k ∧ k ≤ 9223372036854775807) (hp : -9223372036854775808 ≤ p ∧ p ≤ 9223372036854775807) (h0 : 0 ≤ x) (h1 : x < 18446744073709551616) : millpondlaw06_EntryPacks.f 70 k p w t x = some true := by
  unfold millpondlaw06_EntryPacks.f
  rw [works_is 70 (by decide), Option.bind_some, if_pos rfl, pack_is k p w t hk hp 70 (by decide), Option.bind_some, rPack_is k p w t hk hp 70 (by decide), Option.bind_some, unpack_is x h0 h1 70 (by decide), Option.bind_some, rUnpack_is x h0 h1 70 (by decide), Option.bind_some]
  simp
end Go.Proofs.Ytjcibcnphdnfbaa.Pure
