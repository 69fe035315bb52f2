/- In plain lists: RegionOrder, for every list and number. -/
import Derived.Test.YtpgfhgonkinldaaAx18
import Derived.Test.YtpgfhgonkinldaaLib
namespace Go.Proofs.Ytpgfhgonkinldaa.Pure
open Go.RowKit Go.Proofs.Ytpgfhgonkinldaa.A Go.Proofs.YtpgfhgonkinldaaW.PrintWords Go.Proofs.YtpgfhgonkinldaaW.PrintLast Go.Proofs.YtpgfhgonkinldaaW.PrintMore
set_option linter.unusedVariables false
set_option linter.unusedSimpArgs false
theorem add_again {l : List S25} {x y : S25} (hx : (add2 l x).2 = 0) (hy : (add2 l y).2 = 0) (hl : l.length ≤ 60) : add2 (add2 l x).1 y = if ovB y x = true then ([], 4) else (ins y (ins x l), 0) := by
  obtain ⟨hr, hg, hlen, ho, ha⟩ := add_ok hx
  obtain ⟨_, hg', _, ho', _⟩ := add_ok hy
  have hi : rightB (ins x l) = true := ins_right hg hr ho hg.a
  rw [ha]
  simp only
  rw [add2_is, if_pos ⟨hi, (good_iff y).2 hg', by rw [ins_len]; omega⟩, busy_ov hi, ins_ov, ho', Bool.or_false]
theorem RegionOrder (l : List S25) (x y : S25) (hl : l.length ≤ 9223372036854775807) : millpondlaw07_RegionOrder.f 400 l x.f0 x.f1 x.f2 x.f3 x.f4 x.f5 y.f0 y.f1 y.f2 y.f3 y.f4 y.f5 = some true := by
  unfold millpondlaw07_RegionOrder.f
  rw [works_is _ (by omega), Option.bind_some, if_pos rfl]
  by_cases hb : (l.length : Int) > 60
  · rw [if_pos hb]
  · rw [if_neg hb]
    have e1 : ∀ (l : List S25) (x : S25), l.length ≤ 1000 → region_Add.f l x.f0 x.f1 x.f2 x.f3 x.f4 x.f5 = some (add2 l x) := by
      intro l x h; unfold region_Add.f; rw [if_pos (by omega)]
    rw [e1 l x (by omega), Option.bind_some, e1 l y (by omega), Option.bind_some]
    by_cases hx : (add2 l x).2 = 0
    · rw [if_pos hx]
      by_cases hy : (add2 l y).2 = 0
      · rw [if_pos hy]
        obtain ⟨hr, hg, hlen, ho, ha⟩ := add_ok hx
        obtain ⟨_, hg', _, ho', ha'⟩ := add_ok hy
        have n1 : (add2 l x).1.length ≤ 1000 := by rw [ha, ins_len]; omega
        have n2 : (add2 l y).1.length ≤ 1000 := by rw [ha', ins_len]; omega
        have l1 := ins_len x l
        have l2 := ins_len y (ins x l)
        rw [e1 _ y n1, Option.bind_some, e1 _ x n2, Option.bind_some, add_again hx hy (by omega), add_again hy hx (by omega), ov_comm x y]
        by_cases h : ovB y x = true
        · rw [if_pos h, if_pos h]
          simp only
          rw [same_self _ (by simp) _ (by simp)]; rfl
        · have h' : ovB x y = false := by rw [ov_comm]; simpa using h
          rw [if_neg h, if_neg h]
          simp only
          rw [ins_comm hg hg' h' hr ho ho', same_self _ (by rw [ins_len, ins_len]; omega) _ (by rw [ins_len, ins_len]; omega)]; rfl
      · rw [if_neg hy]
    · rw [if_neg hx]
end Go.Proofs.Ytpgfhgonkinldaa.Pure
