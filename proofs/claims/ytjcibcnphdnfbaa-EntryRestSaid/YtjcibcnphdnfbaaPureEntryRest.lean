/- What rests is not touched, and rests again as it is: in plain numbers, for every word. -/
import Derived.Test.YtjcibcnphdnfbaaFEntryRest
import Derived.Test.YtjcibcnphdnfbaaLib3
namespace Go.Proofs.Ytjcibcnphdnfbaa.Pure
open Go.RowKit Go.Proofs.Ytjcibcnphdnfbaa.PEntryTurns Go.Proofs.YtjcibcnphdnfbaaW.PrintWords Go.Proofs.YtjcibcnphdnfbaaW.PrintLast Go.Proofs.YtjcibcnphdnfbaaW.PrintMore
set_option linter.unusedVariables false
set_option linter.unusedSimpArgs false
theorem tch_rst (x : Int) (h0 : 0 ≤ x) : tch (rst x) = tch x := by
  rcases unp_cases x h0 with ⟨_, hl⟩ | ⟨_, _, hl⟩ | ⟨k, p, w, t, hg, rfl, _⟩
  · have : rst x = x := by unfold rst; rw [hl]; rfl
    rw [this]
  · have : rst x = x := by unfold rst; rw [hl]; rfl
    rw [this]
  · rw [(wrd_rst hg w t).1, wrd_tch hg, wrd_tch hg]
theorem EntryRest : millpondlaw06_EntryRest.Pure := by
  intro x hx
  obtain ⟨h0, h1⟩ := u64_wf hx
  refine ⟨70, ?_⟩
  unfold millpondlaw06_EntryRest.f
  rw [works_is 70 (by decide), Option.bind_some, if_pos rfl, rest_is x h0 h1 70 (by decide), Option.bind_some]
  rcases unp_cases x h0 with ⟨hu, hl⟩ | ⟨_, hu, hl⟩ | ⟨k, p, w, t, hg, rfl, hu⟩
  · have hr : rst x = x := by unfold rst; rw [hl]; rfl
    have hw : was x = false := by unfold was; rw [hl]; rfl
    simp only [hr, hw]
    rw [rest_is x h0 h1 70 (by decide), Option.bind_some, unpack_is x h0 h1 70 (by decide), Option.bind_some, hu]
    simp
  · have hr : rst x = x := by unfold rst; rw [hl]; rfl
    have hw : was x = false := by unfold was; rw [hl]; rfl
    simp only [hr, hw]
    rw [rest_is x h0 h1 70 (by decide), Option.bind_some, unpack_is x h0 h1 70 (by decide), Option.bind_some, hu]
    simp
  · have hl := wrd_lt hg w false
    have k0 : (k == 0) = false := by rw [beq_eq_false_iff_ne]; unfold good at hg; omega
    simp only [(wrd_rst hg w t).1, (wrd_rst hg w t).2]
    rw [rest_is _ (by omega) (by omega) 70 (by decide), Option.bind_some, unpack_is _ h0 h1 70 (by decide), Option.bind_some, hu]
    simp only [(wrd_rst hg w false).1, (wrd_rst hg w false).2, if_true]
    rw [if_neg (by simpa using k0), unpack_is _ (by omega) (by omega) 70 (by decide), Option.bind_some, wrd_unpack hg w false, touch_is _ (by omega) (by omega) 70 (by decide), touch_is _ h0 h1 70 (by decide), wrd_tch hg, wrd_tch hg]
    simp
end Go.Proofs.Ytjcibcnphdnfbaa.Pure
