-- Written by this session's own call of the kit's print program (wip/tools/myprint.py): hand-made contracts stand in it for what that program does not cover. Lean checks all of it.
import Derived.Test.YtpkpipkjmlhfaaaAx0
import Derived.Test.YtpkpipkjmlhfaaaWorks
namespace Go.Proofs.Ytpkpipkjmlhfaaa.A
open Go.RowKit Go.Proofs.YtpkpipkjmlhfaaaW.PrintWords Go.Proofs.YtpkpipkjmlhfaaaW.PrintLast Go.Proofs.YtpkpipkjmlhfaaaW.PrintMore
attribute [local go_sem] max2_int min2_int max_two min_two max_three min_three max_four min_four   -- for this text's walks alone
set_option linter.unusedVariables false
set_option linter.unusedSimpArgs false

/-! ### millpondlaw13_works: function 8 -/
def millpondlaw13_works.f : Option Bool := some true
theorem millpondlaw13_works.calls (r : Bool) (w : World) (h : millpondlaw13_works.f = some r) :
    Calls Try.prog 8 #[] w fun e w' => e = .returned (.bool r) ∧ Below w.heap.size w w' := by
  obtain rfl : true = r := Option.some.inj h
  exact Go.Proofs.Ytpkpipkjmlhfaaa.Pure.works_walk w

end Go.Proofs.Ytpkpipkjmlhfaaa.A
