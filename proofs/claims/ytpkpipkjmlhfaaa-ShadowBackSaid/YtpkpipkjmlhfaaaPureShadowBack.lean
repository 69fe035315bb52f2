/- In plain numbers: ShadowBack. -/
import Derived.Test.YtpkpipkjmlhfaaaAx13
import Derived.Test.YtpkpipkjmlhfaaaLib
namespace Go.Proofs.Ytpkpipkjmlhfaaa.Pure
open Go.RowKit Go.Proofs.Ytpkpipkjmlhfaaa.A Go.Proofs.Ytpkpipkjmlhfaaa.Ev Go.Proofs.YtpkpipkjmlhfaaaW.PrintWords Go.Proofs.YtpkpipkjmlhfaaaW.PrintLast Go.Proofs.YtpkpipkjmlhfaaaW.PrintMore
set_option linter.unusedVariables false
set_option linter.unusedSimpArgs false
theorem bi64 {n : Int} (h : (Lit.int .i64 n).wf = true) : -9223372036854775808 ≤ n ∧ n ≤ 9223372036854775807 := by
  simp [Lit.wf, IntKind.min, IntKind.max, IntKind.bits, IntKind.signed] at h
  omega
theorem ShadowBack : millpondlaw13_ShadowBack.Pure := by
  intro g c n x hg hc hn hx
  obtain ⟨x0, x1⟩ := u64_wf hx
  have bg := bi64 hg
  have bc := bi64 hc
  have bn := bi64 hn
  refine ⟨20, ?_⟩
  unfold millpondlaw13_ShadowBack.f millpondlaw13_works.f
  rw [Option.bind_some, if_pos rfl]
  by_cases h1 : g < 0
  · rw [if_pos h1]
  rw [if_neg h1]
  by_cases h2 : g > 255
  · rw [if_pos h2]
  rw [if_neg h2]
  by_cases h3 : c < 0
  · rw [if_pos h3]
  rw [if_neg h3]
  by_cases h4 : c ≥ 1099511627776
  · rw [if_pos h4]
  rw [if_neg h4]
  by_cases h5 : n < 0
  · rw [if_pos h5]
  rw [if_neg h5]
  by_cases h6 : n ≥ 1099511627776
  · rw [if_pos h6]
  have hm := mk_range g c
  have e1 : wrap64 (c + n) = c + n := by unfold wrap64; omega
  rw [if_neg h6, make_is g c bg 20 (by decide), Option.bind_some, look_is _ hm.1 (by omega) 20 (by decide), Option.bind_some, look_mk g c (by omega) (by omega)]
  simp only [if_true]
  rw [e1, dist_is _ _ hm.1 (by omega) (by omega) 20 (by decide), Option.bind_some, dist_mk g c _ (by omega) (by omega) (by omega), if_pos (by omega), look_is x x0 x1 20 (by decide), Option.bind_some, dist_is x 0 x0 x1 (by decide) 20 (by decide)]
  unfold lookS
  by_cases hs : isS x = true
  · have hs' := hs
    unfold isS at hs'
    simp at hs'
    rw [if_pos hs]
    simp only [if_true]
    rw [make_is _ _ (by omega) 20 (by decide), Option.bind_some, mk_look x x0 hs, if_pos rfl, Option.bind_some]
    unfold distS
    rw [if_pos ⟨hs, by decide⟩]
    simp; omega
  · have hf : isS x = false := by simpa using hs
    simp [distS, hf]
end Go.Proofs.Ytpkpipkjmlhfaaa.Pure
