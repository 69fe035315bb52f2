-- Written by this session's own call of the kit's print program (wip/tools/myprint.py): hand-made contracts stand in it for what that program does not cover. Lean checks all of it.
import Derived.Test.YtpkpipkjmlhfaaaAx0
namespace Go.Proofs.Ytpkpipkjmlhfaaa.A
open Go.RowKit Go.Proofs.YtpkpipkjmlhfaaaW.PrintWords Go.Proofs.YtpkpipkjmlhfaaaW.PrintLast Go.Proofs.YtpkpipkjmlhfaaaW.PrintMore
attribute [local go_sem] max2_int min2_int max_two min_two max_three min_three max_four min_four   -- for this text's walks alone
set_option linter.unusedVariables false
set_option linter.unusedSimpArgs false

/-! ### millpondref13_Look: function 10 -/
def millpondref13_Look.f (a0 : Int) : Option (Int × Int × Bool) := if (Int.tmod a0 2) = 0 then (some (0, 0, false)) else (if (IntKind.u64.wrap (Int.tdiv a0 512)) ≥ 1099511627776 then (some (0, 0, false)) else (some (wrap64 (Int.tmod (IntKind.u64.wrap (Int.tdiv a0 2)) 256), wrap64 (IntKind.u64.wrap (Int.tdiv a0 512)), true)))
set_option maxHeartbeats 8000000 in
set_option maxRecDepth 100000 in
theorem millpondref13_Look.calls (a0 : Int) (r1 : Int) (r2 : Int) (r3 : Bool) (w : World) (h : millpondref13_Look.f a0 = some (r1, r2, r3)) :
    Calls Try.prog 10 #[.int .u64 a0] w fun e w' => e = .returned (.tuple #[.int .i64 r1, .int .i64 r2, .bool r3]) ∧ Drawn0 w w' := by
  have H : (if (Int.tmod a0 2) = 0 then (some (0, 0, false)) else (if (IntKind.u64.wrap (Int.tdiv a0 512)) ≥ 1099511627776 then (some (0, 0, false)) else (some (wrap64 (Int.tmod (IntKind.u64.wrap (Int.tdiv a0 2)) 256), wrap64 (IntKind.u64.wrap (Int.tdiv a0 512)), true)))) = some (r1, r2, r3) := h
  clear h
  by_cases c2 : (Int.tmod a0 2) = 0
  · rw [if_pos c2] at H
    have c2b0 : ((Int.tmod a0 2) == 0) = true := beq_iff_eq.mpr c2
    have c2b1 : ((Int.tmod a0 2) != 0) = false := bne_eq_false_iff_eq.mpr c2
    clear c2
    simp only [Option.some.injEq, Prod.mk.injEq] at H
    obtain ⟨rfl, rfl, rfl⟩ := H
    go_enter Try.func10, Try.ntmps10
    go_wp2
    go_ret3
    exact ⟨by first | rfl | (simp; done) | (simp [*]; done), by repeat (first | exact Drawn0.refl _ | apply Drawn0.step)⟩
  · rw [if_neg c2] at H
    have c2b0 : ((Int.tmod a0 2) == 0) = false := beq_eq_false_iff_ne.mpr c2
    have c2b1 : ((Int.tmod a0 2) != 0) = true := bne_iff_ne.mpr c2
    by_cases c3 : (IntKind.u64.wrap (Int.tdiv a0 512)) ≥ 1099511627776
    · rw [if_pos c3] at H
      have c3b0 : decide (1099511627776 ≤ (IntKind.u64.wrap (Int.tdiv a0 512))) = true := decide_eq_true c3
      clear c3
      simp only [Option.some.injEq, Prod.mk.injEq] at H
      obtain ⟨rfl, rfl, rfl⟩ := H
      go_enter Try.func10, Try.ntmps10
      go_wp2
      go_ret3
      exact ⟨by first | rfl | (simp; done) | (simp [*]; done), by repeat (first | exact Drawn0.refl _ | apply Drawn0.step)⟩
    · rw [if_neg c3] at H
      have c3b0 : decide (1099511627776 ≤ (IntKind.u64.wrap (Int.tdiv a0 512))) = false := decide_eq_false c3
      clear c3
      simp only [Option.some.injEq, Prod.mk.injEq] at H
      obtain ⟨rfl, rfl, rfl⟩ := H
      go_enter Try.func10, Try.ntmps10
      go_wp2
      go_ret3
      exact ⟨by first | rfl | (simp; done) | (simp [*]; done), by repeat (first | exact Drawn0.refl _ | apply Drawn0.step)⟩

end Go.Proofs.Ytpkpipkjmlhfaaa.A
