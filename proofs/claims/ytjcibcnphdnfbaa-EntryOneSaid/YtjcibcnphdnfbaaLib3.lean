/- Words of entries, by their fields: what touching, resting and writing make of them. -/
import Derived.Test.YtjcibcnphdnfbaaLib1
namespace Go.Proofs.Ytjcibcnphdnfbaa.Pure
open Go.RowKit Go.Proofs.Ytjcibcnphdnfbaa.PEntryTurns Go.Proofs.YtjcibcnphdnfbaaW.PrintWords Go.Proofs.YtjcibcnphdnfbaaW.PrintLast Go.Proofs.YtjcibcnphdnfbaaW.PrintMore
set_option linter.unusedVariables false
set_option linter.unusedSimpArgs false
/-- A kind that leads somewhere, and a page. -/
def good (k p : Int) : Prop := (k = 1 ∨ k = 2) ∧ 0 ≤ p ∧ p < 16777216
theorem wrd_lt {k p : Int} (h : good k p) (w t : Bool) : 0 < wrd k p w t ∧ wrd k p w t < 268435456 := by
  unfold good at h; cases w <;> cases t <;> simp [wrd] <;> omega
theorem wrd_fields {k p : Int} (h : good k p) (w t : Bool) : wrd k p w t % 4 = k ∧ wrd k p w t / 4 % 16777216 = p ∧ decide (wrd k p w t / 67108864 % 2 = 1) = w ∧ decide (wrd k p w t / 134217728 % 2 = 1) = t := by
  unfold good at h
  cases w <;> cases t <;> simp [wrd] <;> omega
theorem wrd_leads {k p : Int} (h : good k p) (w t : Bool) : okW (wrd k p w t) = true ∧ leads (wrd k p w t) = true := by
  have hl := wrd_lt h w t
  have hf := (wrd_fields h w t).1
  have ho : okW (wrd k p w t) = true := by
    simp only [okW, Bool.or_eq_true, Bool.and_eq_true, decide_eq_true_eq]
    unfold good at h; omega
  refine ⟨ho, ?_⟩
  simp only [leads, ho, Bool.true_and, decide_eq_true_eq]; omega
theorem wrd_unpack {k p : Int} (h : good k p) (w t : Bool) : unp (wrd k p w t) = (k, p, w, t, 0) := by
  obtain ⟨h1, h2, h3, h4⟩ := wrd_fields h w t
  unfold unp
  rw [if_pos (wrd_leads h w t).1, h1, h2, h3, h4]
theorem wrd_tch {k p : Int} (h : good k p) (w t : Bool) : tch (wrd k p w t) = wrd k p w true := by
  obtain ⟨_, _, _, h4⟩ := wrd_fields h w t
  unfold tch
  rw [(wrd_leads h w t).2]
  cases t
  · have : ¬ wrd k p w false / 134217728 % 2 = 1 := by simpa using h4
    rw [if_pos ⟨rfl, this⟩]; simp [wrd]
  · have : wrd k p w true / 134217728 % 2 = 1 := by simpa using h4
    rw [if_neg (fun hh => hh.2 this)]
theorem wrd_rst {k p : Int} (h : good k p) (w t : Bool) : rst (wrd k p w t) = wrd k p w false ∧ was (wrd k p w t) = t := by
  obtain ⟨_, _, _, h4⟩ := wrd_fields h w t
  unfold rst was
  rw [(wrd_leads h w t).2, h4]
  refine ⟨?_, by simp⟩
  cases t
  · have : ¬ wrd k p w false / 134217728 % 2 = 1 := by simpa using h4
    rw [if_neg (fun hh => this hh.2)]
  · have : wrd k p w true / 134217728 % 2 = 1 := by simpa using h4
    rw [if_pos ⟨rfl, this⟩]; simp [wrd]
theorem wrd_wrt {k p : Int} (h : good k p) (w t on : Bool) : wrt (wrd k p w t) on = wrd k p on t := by
  obtain ⟨_, _, h3, _⟩ := wrd_fields h w t
  unfold wrt
  rw [(wrd_leads h w t).2, if_pos rfl]
  cases w
  · have : ¬ wrd k p false t / 67108864 % 2 = 1 := by simpa using h3
    cases on <;> simp [this, wrd] <;> omega
  · have : wrd k p true t / 67108864 % 2 = 1 := by simpa using h3
    cases on <;> simp [this, wrd] <;> omega
/-- What an entry's packing comes to: nothing, nought, or a word that leads somewhere. -/
theorem pk_cases (k p : Int) (w t : Bool) : (pk k p w t = (0, 1)) ∨ (k = 0 ∧ p = 0 ∧ w = false ∧ t = false ∧ pk k p w t = (0, 0)) ∨ (good k p ∧ pk k p w t = (wrd k p w t, 0)) := by
  unfold pk
  by_cases hc : (rightB k p w t && decide (0 ≤ p) && decide (p < 16777216)) = true
  · rw [if_pos hc]
    simp only [rightB, Bool.or_eq_true, Bool.and_eq_true, decide_eq_true_eq, Bool.not_eq_true'] at hc
    right
    by_cases k0 : k = 0
    · left
      obtain ⟨⟨h, h1⟩, h2⟩ := hc
      rcases h with (h | h) | h
      · obtain ⟨⟨⟨_, hp⟩, hw⟩, ht⟩ := h
        subst k0 hp hw ht
        exact ⟨rfl, rfl, rfl, rfl, by decide⟩
      · omega
      · omega
    · right
      exact ⟨⟨by omega, by omega⟩, rfl⟩
  · rw [if_neg hc]; exact .inl rfl
/-- What a word's unpacking comes to. -/
theorem unp_cases (x : Int) (h0 : 0 ≤ x) : (unp x = (0, 0, false, false, 1) ∧ leads x = false) ∨ (x = 0 ∧ unp x = (0, 0, false, false, 0) ∧ leads x = false) ∨ (∃ k p w t, good k p ∧ x = wrd k p w t ∧ unp x = (k, p, w, t, 0)) := by
  by_cases ho : okW x = true
  · right
    by_cases hz : x = 0
    · left; subst hz; exact ⟨rfl, by decide, by decide⟩
    · right
      have hl := okW_lt ho
      refine ⟨x % 4, x / 4 % 16777216, decide (x / 67108864 % 2 = 1), decide (x / 134217728 % 2 = 1), ⟨?_, by omega⟩, (wrd_unp x h0 hl).symm, ?_⟩
      · simp only [okW, Bool.or_eq_true, Bool.and_eq_true, decide_eq_true_eq] at ho; omega
      · unfold unp; rw [if_pos ho]
  · left
    have ho' : okW x = false := by simpa using ho
    exact ⟨by unfold unp; rw [if_neg ho], by simp [leads, ho']⟩
theorem wrd_inj {k p k' p' : Int} {w t w' t' : Bool} (h : good k p) (h' : good k' p') : (wrd k p w t == wrd k' p' w' t') = (k == k' && (p == p' && (w == w' && t == t'))) := by
  rw [Bool.eq_iff_iff]
  simp only [Bool.and_eq_true, beq_iff_eq]
  constructor
  · intro e
    have a := wrd_unpack h w t
    have b := wrd_unpack h' w' t'
    rw [e, b] at a
    simp only [Prod.mk.injEq] at a
    exact ⟨a.1.symm, a.2.1.symm, a.2.2.1.symm, a.2.2.2.1.symm⟩
  · rintro ⟨rfl, rfl, rfl, rfl⟩; rfl
end Go.Proofs.Ytjcibcnphdnfbaa.Pure
