/- In plain lists: RegionLeft, for every list and number. -/
import Derived.Test.YtpgfhgonkinldaaAx15
import Derived.Test.YtpgfhgonkinldaaLib
namespace Go.Proofs.Ytpgfhgonkinldaa.Pure
open Go.RowKit Go.Proofs.Ytpgfhgonkinldaa.A Go.Proofs.YtpgfhgonkinldaaW.PrintWords Go.Proofs.YtpgfhgonkinldaaW.PrintLast Go.Proofs.YtpgfhgonkinldaaW.PrintMore
set_option linter.unusedVariables false
set_option linter.unusedSimpArgs false
theorem tell_is {o : Option S25} : (tell o).2.2.2.2.2.2 = o.isSome := by cases o <;> rfl
theorem RegionLeft (l : List S25) (p q g : Int) (hl : l.length ≤ 9223372036854775807) : millpondlaw07_RegionLeft.f (l.length + 400) l p q g = some true := by
  unfold millpondlaw07_RegionLeft.f
  rw [works_is _ (by omega), Option.bind_some, if_pos rfl, rright_is l hl _ (by omega), Option.bind_some]
  by_cases hb : (l.length : Int) > 80
  · rw [if_pos hb]
  · rw [if_neg hb]
    cases hr : rightB l
    · rfl
    · rw [if_pos rfl]
      have hlen := cut_len l p q
      have e1 : region_Cut.f l p q = some (cutS l p q) := by unfold region_Cut.f; rw [if_pos (by omega), hr]; rfl
      have hc : rightB (cutS l p q) = true := cut_right hr p q
      have e2 : region_Find.f l g = some (tell (l.find? (inB g))) := by unfold region_Find.f; rw [if_pos (by omega), find7_is, hr]; rfl
      have e3 : region_Find.f (cutS l p q) g = some (tell ((cutS l p q).find? (inB g))) := by unfold region_Find.f; rw [if_pos (by omega), find7_is, hc]; rfl
      rw [e1, Option.bind_some, e2, Option.bind_some, e3, Option.bind_some, right_is _ (by omega) _ (by omega), Option.bind_some, if_pos hc]
      by_cases hg : p ≤ g ∧ g < q
      · rw [if_pos hg.1, if_pos hg.2, cut_find_in hr hg]; rfl
      · have fin : ∀ z : Option Bool, (z = if (tell (l.find? (inB g))).2.2.2.2.2.2 = true then (if (tell ((cutS l p q).find? (inB g))).2.2.2.2.2.2 = true then (if (tell (l.find? (inB g))).2.2.1 = (tell ((cutS l p q).find? (inB g))).2.2.1 then (if ((tell (l.find? (inB g))).2.2.2.2.2.1 == (tell ((cutS l p q).find? (inB g))).2.2.2.2.2.1) = true then ((region_Key.f (tell (l.find? (inB g))).1 (tell (l.find? (inB g))).2.1 (tell (l.find? (inB g))).2.2.1 (tell (l.find? (inB g))).2.2.2.1 (tell (l.find? (inB g))).2.2.2.2.1 (tell (l.find? (inB g))).2.2.2.2.2.1 g).bind fun a => ((region_Key.f (tell ((cutS l p q).find? (inB g))).1 (tell ((cutS l p q).find? (inB g))).2.1 (tell ((cutS l p q).find? (inB g))).2.2.1 (tell ((cutS l p q).find? (inB g))).2.2.2.1 (tell ((cutS l p q).find? (inB g))).2.2.2.2.1 (tell ((cutS l p q).find? (inB g))).2.2.2.2.2.1 g).bind fun b => (some (a.1 == b.1 && (a.2 == b.2))))) else (some false)) else (some false)) else (some false)) else (some (!(tell ((cutS l p q).find? (inB g))).2.2.2.2.2.2))) → z = some true := by
          intro z hz
          rw [hz]
          rcases cut_find_out (p := p) (q := q) hg hr with ⟨h1, h2⟩ | ⟨x, y, h1, h2, h3, h4, h5⟩
          · rw [h1, h2]; rfl
          · rw [h1, h2]
            rw [h3, h4] at h5
            simp only [tell, if_true, h3, h4, h5, beq_self_eq_true]
            unfold region_Key.f
            split <;> simp
        by_cases h1 : g ≥ p
        · rw [if_pos h1, if_neg (fun h2 => hg ⟨h1, h2⟩)]; exact fin _ rfl
        · rw [if_neg h1]; exact fin _ rfl
end Go.Proofs.Ytpgfhgonkinldaa.Pure
