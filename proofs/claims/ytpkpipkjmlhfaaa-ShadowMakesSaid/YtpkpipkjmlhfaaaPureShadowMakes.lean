/- In plain numbers: ShadowMakes. -/
import Derived.Test.YtpkpipkjmlhfaaaAx12
import Derived.Test.YtpkpipkjmlhfaaaLib
namespace Go.Proofs.Ytpkpipkjmlhfaaa.Pure
open Go.RowKit Go.Proofs.Ytpkpipkjmlhfaaa.A Go.Proofs.Ytpkpipkjmlhfaaa.Ev Go.Proofs.YtpkpipkjmlhfaaaW.PrintWords Go.Proofs.YtpkpipkjmlhfaaaW.PrintLast Go.Proofs.YtpkpipkjmlhfaaaW.PrintMore
set_option linter.unusedVariables false
set_option linter.unusedSimpArgs false
theorem bi64 {n : Int} (h : (Lit.int .i64 n).wf = true) : -9223372036854775808 ≤ n ∧ n ≤ 9223372036854775807 := by
  simp [Lit.wf, IntKind.min, IntKind.max, IntKind.bits, IntKind.signed] at h
  omega
theorem ShadowMakes : millpondlaw13_ShadowMakes.Pure := by
  intro g c x r hg hc hx hr
  obtain ⟨x0, x1⟩ := u64_wf hx
  have bg := bi64 hg
  have bc := bi64 hc
  refine ⟨20, ?_⟩
  unfold millpondlaw13_ShadowMakes.f millpondlaw13_works.f
  rw [Option.bind_some, if_pos rfl, look_is x x0 x1 20 (by decide), Option.bind_some, rlook_is x x0 x1, Option.bind_some, rdist_is x c x0 x1 bc, Option.bind_some, make_is g c bg 20 (by decide), Option.bind_some, rmake_is g c bc, Option.bind_some, if_pos rfl, if_pos rfl, if_pos rfl, if_pos (by simp),
    dist_is x c x0 x1 bc 20 (by decide), Option.bind_some, if_pos rfl, near_is x c r x0 x1 bc 20 (by decide), Option.bind_some]
  unfold nearS
  by_cases h : distS x c ≥ 0
  · rw [if_pos h]; simp; omega
  · rw [if_neg h]; simp; omega
end Go.Proofs.Ytpkpipkjmlhfaaa.Pure
