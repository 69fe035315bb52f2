/- What is packed is unpacked again, and each word of an entry is packed so: in plain numbers. -/
import Derived.Test.YtjcibcnphdnfbaaFEntryBack
import Derived.Test.YtjcibcnphdnfbaaLib3
namespace Go.Proofs.Ytjcibcnphdnfbaa.Pure
open Go.RowKit Go.Proofs.Ytjcibcnphdnfbaa.PEntryTurns Go.Proofs.YtjcibcnphdnfbaaW.PrintWords Go.Proofs.YtjcibcnphdnfbaaW.PrintLast Go.Proofs.YtjcibcnphdnfbaaW.PrintMore
set_option linter.unusedVariables false
set_option linter.unusedSimpArgs false
theorem EntryBack (k p : Int) (w t : Bool) (x : Int) (hk : -9223372036854775808 ≤ k ∧ k ≤ 9223372036854775807) (hp : -9223372036854775808 ≤ p ∧ p ≤ 9223372036854775807) (h0 : 0 ≤ x) (h1 : x < 18446744073709551616) : millpondlaw06_EntryBack.f 70 k p w t x = some true := by
  have hj : ((entry_Unpack.f 70 x).bind fun bt173 => (if bt173.2.2.2.2 = 0 then ((entry_Pack.f 70 bt173.1 bt173.2.1 bt173.2.2.1 bt173.2.2.2.1).bind fun bt179 => (if bt179.2 = 0 then (some (bt179.1 == x)) else (some false))) else (if (bt173.1 == 0 && (bt173.2.1 == 0 && (!bt173.2.2.1 && (!bt173.2.2.2.1)))) = true then ((entry_Touch.f 70 x).bind fun t181 => (some (t181 == x))) else (some false)))) = some true := by
    rw [unpack_is x h0 h1 70 (by decide), Option.bind_some]
    rcases unp_cases x h0 with ⟨hu, hl⟩ | ⟨rfl, hu, hl⟩ | ⟨k, p, w, t, hg, rfl, hu⟩
    · have ht : tch x = x := by unfold tch; rw [hl]; rfl
      rw [hu, touch_is x h0 h1 70 (by decide), ht]
      simp
    · rw [hu]
      simp only [if_true]
      rw [pack_is 0 0 false false (by decide) (by decide) 70 (by decide)]
      decide
    · have hg' := hg
      unfold good at hg'
      rw [hu]
      simp only [if_true]
      rw [pack_is k p w t (by omega) (by omega) 70 (by decide), Option.bind_some]
      rcases pk_cases k p w t with h | ⟨h, _⟩ | ⟨_, h⟩
      · exfalso
        unfold pk at h
        have hr : rightB k p w t = true := by simp only [rightB, Bool.or_eq_true, decide_eq_true_eq]; omega
        rw [hr, if_pos (by simp only [Bool.true_and, Bool.and_eq_true, decide_eq_true_eq]; omega)] at h
        simp at h
      · omega
      · rw [h]; simp
  unfold millpondlaw06_EntryBack.f
  rw [works_is 70 (by decide), Option.bind_some, if_pos rfl, pack_is k p w t hk hp 70 (by decide), Option.bind_some]
  rcases pk_cases k p w t with h | ⟨rfl, rfl, rfl, rfl, h⟩ | ⟨hg, h⟩
  · rw [h]; simpa using hj
  · rw [h]
    simp only [if_true]
    rw [unpack_is 0 (by decide) (by decide) 70 (by decide), Option.bind_some, show unp 0 = (0, 0, false, false, 0) from by decide]
    simpa using hj
  · have hl := wrd_lt hg w t
    rw [h]
    simp only [if_true]
    rw [unpack_is _ (by omega) (by omega) 70 (by decide), Option.bind_some, wrd_unpack hg w t]
    simpa using hj
end Go.Proofs.Ytjcibcnphdnfbaa.Pure
