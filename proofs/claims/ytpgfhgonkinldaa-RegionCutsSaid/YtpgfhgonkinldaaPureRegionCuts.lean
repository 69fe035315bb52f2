/- In plain lists: RegionCuts, for every list and number. -/
import Derived.Test.YtpgfhgonkinldaaAx14
import Derived.Test.YtpgfhgonkinldaaLibCut
namespace Go.Proofs.Ytpgfhgonkinldaa.Pure
open Go.RowKit Go.Proofs.Ytpgfhgonkinldaa.A Go.Proofs.YtpgfhgonkinldaaW.PrintWords Go.Proofs.YtpgfhgonkinldaaW.PrintLast Go.Proofs.YtpgfhgonkinldaaW.PrintMore
set_option linter.unusedVariables false
set_option linter.unusedSimpArgs false
theorem RegionCuts (l : List S25) (p q : Int) (hl : l.length ≤ 9223372036854775807) : millpondlaw07_RegionCuts.f 400 l p q = some true := by
  unfold millpondlaw07_RegionCuts.f
  rw [works_is 400 (by decide), Option.bind_some, if_pos rfl]
  by_cases hb : (l.length : Int) > 80
  · rw [if_pos hb]
  · rw [if_neg hb]
    have hc := cut_len l p q
    have e1 : region_Cut.f l p q = some (if rightB l = true then cutS l p q else []) := by unfold region_Cut.f; rw [if_pos (by omega)]
    have hlen : (if rightB l = true then cutS l p q else []).length ≤ 160 := by
      split
      · omega
      · simp
    rw [e1, Option.bind_some, rcut_is l p q (by omega) 400 (by omega), Option.bind_some, same_self _ (by omega) 400 (by omega)]
    rfl
end Go.Proofs.Ytpgfhgonkinldaa.Pure
