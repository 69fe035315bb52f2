/- Entries that are unlike have words that are: in plain numbers. -/
import Derived.Test.YtjcibcnphdnfbaaFEntryBits
import Derived.Test.YtjcibcnphdnfbaaLib3
namespace Go.Proofs.Ytjcibcnphdnfbaa.Pure
open Go.RowKit Go.Proofs.Ytjcibcnphdnfbaa.PEntryTurns Go.Proofs.YtjcibcnphdnfbaaW.PrintWords Go.Proofs.YtjcibcnphdnfbaaW.PrintLast Go.Proofs.YtjcibcnphdnfbaaW.PrintMore
set_option linter.unusedVariables false
set_option linter.unusedSimpArgs false
theorem EntryBits (k p : Int) (w t : Bool) (k' p' : Int) (w' t' : Bool) (hk : -9223372036854775808 ≤ k ∧ k ≤ 9223372036854775807) (hp : -9223372036854775808 ≤ p ∧ p ≤ 9223372036854775807) (hk' : -9223372036854775808 ≤ k' ∧ k' ≤ 9223372036854775807) (hp' : -9223372036854775808 ≤ p' ∧ p' ≤ 9223372036854775807) : millpondlaw06_EntryBits.f 70 k p w t k' p' w' t' = some true := by
  unfold millpondlaw06_EntryBits.f
  rw [works_is 70 (by decide), Option.bind_some, if_pos rfl, pack_is k p w t hk hp 70 (by decide), Option.bind_some, pack_is k' p' w' t' hk' hp' 70 (by decide), Option.bind_some]
  rcases pk_cases k p w t with h | ⟨rfl, rfl, rfl, rfl, h⟩ | ⟨hg, h⟩
  · rcases pk_cases k' p' w' t' with h' | ⟨rfl, rfl, rfl, rfl, h'⟩ | ⟨hg', h'⟩ <;> rw [h, h'] <;> simp
  · rcases pk_cases k' p' w' t' with h' | ⟨rfl, rfl, rfl, rfl, h'⟩ | ⟨hg', h'⟩
    · rw [h, h']; simp
    · rw [h]; decide
    · have hl := wrd_lt hg' w' t'
      have e1 : ((0 : Int) == wrd k' p' w' t') = false := by rw [beq_eq_false_iff_ne]; omega
      have e2 : ((0 : Int) == k') = false := by rw [beq_eq_false_iff_ne]; unfold good at hg'; omega
      rw [h, h']
      simp [e1, e2]
  · have hl := wrd_lt hg w t
    have e1 : (wrd k p w t == 0) = false := by rw [beq_eq_false_iff_ne]; omega
    have e2 : (k == 0) = false := by rw [beq_eq_false_iff_ne]; unfold good at hg; omega
    rcases pk_cases k' p' w' t' with h' | ⟨rfl, rfl, rfl, rfl, h'⟩ | ⟨hg', h'⟩
    · rw [h, h']; simp
    · rw [h, h']
      simp [e1, e2]; omega
    · rw [h, h']
      simp only [if_true, wrd_inj hg hg', e1, e2]
      simp; omega
end Go.Proofs.Ytjcibcnphdnfbaa.Pure
