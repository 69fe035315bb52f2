/- Whatever the word and the flag: touched, rested and let be written as the reference says. -/
import Derived.Test.YtjcibcnphdnfbaaLib2
namespace Go.Proofs.Ytjcibcnphdnfbaa.Pure
open Go.RowKit Go.Proofs.Ytjcibcnphdnfbaa.PEntryTurns Go.Proofs.YtjcibcnphdnfbaaW.PrintWords Go.Proofs.YtjcibcnphdnfbaaW.PrintLast Go.Proofs.YtjcibcnphdnfbaaW.PrintMore
set_option linter.unusedVariables false
set_option linter.unusedSimpArgs false
theorem EntryTurns : millpondlaw06_EntryTurns.Pure := by
  intro x on hx
  obtain ⟨h0, h1⟩ := u64_wf hx
  refine ⟨70, ?_⟩
  unfold millpondlaw06_EntryTurns.f
  rw [works_is 70 (by decide), Option.bind_some, if_pos rfl, rest_is x h0 h1 70 (by decide), Option.bind_some, rRest_is x h0 h1 70 (by decide), Option.bind_some, touch_is x h0 h1 70 (by decide), Option.bind_some, rTouch_is x h0 h1 70 (by decide), Option.bind_some, if_pos rfl, if_pos rfl, if_pos (by simp), write_is x h0 h1 70 on (by decide), Option.bind_some, rWrite_is x h0 h1 70 on (by decide), Option.bind_some]
  simp

end Go.Proofs.Ytjcibcnphdnfbaa.Pure
