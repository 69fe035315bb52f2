-- Written by this session's own call of the kit's print program (wip/tools/myprint.py): hand-made contracts stand in it for what that program does not cover. Lean checks all of it.
import Derived.Test.YtpkpipkjmlhfaaaAx0
namespace Go.Proofs.Ytpkpipkjmlhfaaa.A
open Go.RowKit Go.Proofs.YtpkpipkjmlhfaaaW.PrintWords Go.Proofs.YtpkpipkjmlhfaaaW.PrintLast Go.Proofs.YtpkpipkjmlhfaaaW.PrintMore
attribute [local go_sem] max2_int min2_int max_two min_two max_three min_three max_four min_four   -- for this text's walks alone
set_option linter.unusedVariables false
set_option linter.unusedSimpArgs false

-- NOT PRINTED: function 16 (shadow_New)

/-! ### shadow_group: function 27 -/
def shadow_group.f (a0 : Int) : Option (Bool) := if 0 ≤ a0 then (some (decide (a0 < 64))) else (some false)
set_option maxHeartbeats 8000000 in
set_option maxRecDepth 100000 in
theorem shadow_group.calls (a0 : Int) (r : Bool) (w : World) (h : shadow_group.f a0 = some r) :
    Calls Try.prog 27 #[.int .i64 a0] w fun e w' => e = .returned (.bool r) ∧ Drawn0 w w' := by
  have H : (if 0 ≤ a0 then (some (decide (a0 < 64))) else (some false)) = some r := h
  clear h
  by_cases c2 : 0 ≤ a0
  · rw [if_pos c2] at H
    have c2b0 : decide (0 ≤ a0) = true := decide_eq_true c2
    clear c2
    obtain rfl := Option.some.inj H
    go_enter Try.func27, Try.ntmps27
    go_wp2
    go_ret
    exact ⟨by first | rfl | (simp; done) | (simp [*]; done), by repeat (first | exact Drawn0.refl _ | apply Drawn0.step)⟩
  · rw [if_neg c2] at H
    have c2b0 : decide (0 ≤ a0) = false := decide_eq_false c2
    clear c2
    obtain rfl := Option.some.inj H
    go_enter Try.func27, Try.ntmps27
    go_wp2
    go_ret
    exact ⟨by first | rfl | (simp; done) | (simp [*]; done), by repeat (first | exact Drawn0.refl _ | apply Drawn0.step)⟩

-- NOT PRINTED: function 18 (shadow_Log_Went)

-- NOT PRINTED: function 20 (shadow_Log_Came)

-- NOT PRINTED: function 22 (shadow_Log_Clock)

-- NOT PRINTED: function 23 (shadow_Log_Back)

-- NOT PRINTED: function 8 (millpondlaw13_works)

-- NOT PRINTED: function 3 (millpondlaw13_ShadowMakes)

-- NOT PRINTED: function 17 (millpondref13_New)

-- NOT PRINTED: function 19 (millpondref13_Log_Went)

-- NOT PRINTED: function 21 (millpondref13_Log_Came)

-- NOT PRINTED: function 4 (millpondlaw13_ShadowLogs)

-- NOT PRINTED: function 5 (millpondlaw13_ShadowBack)

-- NOT PRINTED: function 6 (millpondlaw13_ShadowClocks)

-- NOT PRINTED: function 7 (millpondlaw13_ShadowNear)

end Go.Proofs.Ytpkpipkjmlhfaaa.A
