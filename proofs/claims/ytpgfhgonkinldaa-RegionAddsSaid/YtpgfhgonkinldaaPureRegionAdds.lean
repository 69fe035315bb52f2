/- In plain lists: RegionAdds, for every list and number. -/
import Derived.Test.YtpgfhgonkinldaaAx12
import Derived.Test.YtpgfhgonkinldaaLibAdd
namespace Go.Proofs.Ytpgfhgonkinldaa.Pure
open Go.RowKit Go.Proofs.Ytpgfhgonkinldaa.A Go.Proofs.YtpgfhgonkinldaaW.PrintWords Go.Proofs.YtpgfhgonkinldaaW.PrintLast Go.Proofs.YtpgfhgonkinldaaW.PrintMore
set_option linter.unusedVariables false
set_option linter.unusedSimpArgs false
theorem RegionAdds (l : List S25) (x : S25) (p : Int) (hl : l.length ≤ 9223372036854775807) : millpondlaw07_RegionAdds.f 400 l x.f0 x.f1 x.f2 x.f3 x.f4 x.f5 p = some true := by
  unfold millpondlaw07_RegionAdds.f
  rw [works_is 400 (by decide), Option.bind_some, if_pos rfl]
  by_cases hb : (l.length : Int) > 80
  · rw [if_pos hb]
  · rw [if_neg hb]
    have hl' : l.length ≤ 80 := by omega
    have e1 : region_Add.f l x.f0 x.f1 x.f2 x.f3 x.f4 x.f5 = some (add2 l x) := by unfold region_Add.f; rw [if_pos (by omega)]
    have e2 : region_Find.f l p = some (find7 l p) := by unfold region_Find.f; rw [if_pos (by omega)]
    have hlen : (add2 l x).1.length ≤ 81 := by
      rw [add2_is]; split
      · split
        · simp
        · have : ∀ m : List S25, (ins x m).length = m.length + 1 := by
            intro m; induction m with
            | nil => rfl
            | cons y ys ih => simp only [ins]; split <;> simp [ih]
          simp [this]; omega
      · simp
    rw [e1, Option.bind_some, radd_is l x (by omega) 400 (by omega), Option.bind_some, e2, Option.bind_some, rfind_is l p (by omega) 400 (by omega), Option.bind_some, same_self _ (by omega) 400 (by omega), Option.bind_some, rright_is l (by omega) 400 (by omega), Option.bind_some, if_pos rfl, if_pos rfl, if_pos (by simp), if_pos (by simp), valid_is, Option.bind_some, rvalid_is, Option.bind_some, if_pos (by simp), right_is l (by omega) 400 (by omega), Option.bind_some, if_pos (by simp), (pages_is l (by omega) 400 (by omega)).1, Option.bind_some, (pages_is l (by omega) 400 (by omega)).2, Option.bind_some, if_pos rfl, key_is]
    unfold millpondref07_Key.f
    split <;> simp
end Go.Proofs.Ytpgfhgonkinldaa.Pure
