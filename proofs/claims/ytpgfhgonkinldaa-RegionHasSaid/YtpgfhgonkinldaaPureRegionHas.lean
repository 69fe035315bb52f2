/- In plain lists: RegionHas, for every list and number. -/
import Derived.Test.YtpgfhgonkinldaaAx16
import Derived.Test.YtpgfhgonkinldaaLib
namespace Go.Proofs.Ytpgfhgonkinldaa.Pure
open Go.RowKit Go.Proofs.Ytpgfhgonkinldaa.A Go.Proofs.YtpgfhgonkinldaaW.PrintWords Go.Proofs.YtpgfhgonkinldaaW.PrintLast Go.Proofs.YtpgfhgonkinldaaW.PrintMore
set_option linter.unusedVariables false
set_option linter.unusedSimpArgs false
theorem pgs_total {l : List S25} (h : rightB l = true) : pgs l = total l := by unfold pgs total; rw [if_pos h]
theorem ne6 (x : S25) : (!(x.f0 == x.f0) || (!(x.f1 == x.f1) || (!(x.f2 == x.f2) || (!(x.f3 == x.f3) || (!(x.f4 == x.f4) || (!(x.f5 == x.f5))))))) = false := by simp
theorem RegionHas (l : List S25) (x : S25) (g : Int) (hl : l.length ≤ 9223372036854775807) : millpondlaw07_RegionHas.f 400 l x.f0 x.f1 x.f2 x.f3 x.f4 x.f5 g = some true := by
  unfold millpondlaw07_RegionHas.f
  rw [works_is _ (by omega), Option.bind_some, if_pos rfl]
  by_cases hb : (l.length : Int) > 80
  · rw [if_pos hb]
  · rw [if_neg hb]
    have e1 : region_Add.f l x.f0 x.f1 x.f2 x.f3 x.f4 x.f5 = some (add2 l x) := by unfold region_Add.f; rw [if_pos (by omega)]
    rw [e1, Option.bind_some]
    by_cases h0 : (add2 l x).2 = 0
    · obtain ⟨hr, hg, hlen, ho, ha⟩ := add_ok h0
      rw [if_pos h0, ha]
      simp only
      have hi : rightB (ins x l) = true := ins_right hg hr ho hg.a
      have li := ins_len x l
      have e2 : region_Find.f l g = some (tell (l.find? (inB g))) := by unfold region_Find.f; rw [if_pos (by omega), find7_is, hr]; rfl
      have e3 : region_Find.f (ins x l) g = some (tell ((ins x l).find? (inB g))) := by unfold region_Find.f; rw [if_pos (by omega), find7_is, hi]; rfl
      have e4 : region_Cut.f (ins x l) x.f0 x.f1 = some l := by unfold region_Cut.f; rw [if_pos (by omega), hi, if_pos rfl, ins_cut hg hr ho]
      have e5 : (millpondref07_Same.f 400 l l) = some true := same_self _ (by omega) _ (by omega)
      have e6 : (region_Pages.f 400 (ins x l)) = some (total (ins x l)) := by rw [(pages_is _ (by omega) _ (by omega)).1, pgs_total hi]
      have e7 : (region_Pages.f 400 l) = some (total l) := by rw [(pages_is _ (by omega) _ (by omega)).1, pgs_total hr]
      have e8 : region_Right.f 400 (ins x l) = some true := by rw [right_is _ (by omega) _ (by omega), hi]
      have t0 := total_le hr
      have b0 := hg.a; have b1 := hg.b; have b2 := hg.c
      have e9 : total (ins x l) = wrap64 (wrap64 (total l + x.f1) - x.f0) := by
        rw [wrap_in (n := total l + x.f1) (by omega) (by omega), wrap_in (by omega) (by omega), ins_total]; omega
      rw [e3, Option.bind_some, e2, Option.bind_some]
      have fin : ∀ z : Option Bool, z = ((region_Cut.f (ins x l) x.f0 x.f1).bind fun t333 => ((millpondref07_Same.f 400 t333 l).bind fun t336 => (if t336 = true then ((region_Pages.f 400 (ins x l)).bind fun t337 => ((region_Pages.f 400 l).bind fun t338 => (if t337 = (wrap64 ((wrap64 (t338 + x.f1)) - x.f0)) then ((region_Right.f 400 (ins x l)).bind fun t339 => (some t339)) else (some false)))) else (some false)))) → z = some true := by
        intro z hz
        rw [hz, e4, Option.bind_some, e5, Option.bind_some, if_pos rfl, e6, Option.bind_some, e7, Option.bind_some, if_pos e9, e8]; rfl
      by_cases hin : inB g x = true
      · have hn := (inB_iff g x).1 hin
        obtain ⟨f1, f2⟩ := ins_find_in hin hr ho
        rw [if_pos (show g ≥ x.f0 by omega), if_pos hn.2, f1, f2]
        simp only [tell, if_true, Bool.false_eq_true, if_false, ne6]
        exact fin _ rfl
      · have hn : ¬ (x.f0 ≤ g ∧ g < x.f1) := fun hh => hin ((inB_iff g x).2 hh)
        rw [ins_find_out hin]
        have q1 : ¬ ((tell (l.find? (inB g))).2.2.2.2.2.2 != (tell (l.find? (inB g))).2.2.2.2.2.2) = true := by simp
        generalize tell (l.find? (inB g)) = y at q1
        have q2 : (!(y.1 == y.1) || (!(y.2.1 == y.2.1) || (!(y.2.2.1 == y.2.2.1) || (!(y.2.2.2.1 == y.2.2.2.1) || (!(y.2.2.2.2.1 == y.2.2.2.2.1) || (!(y.2.2.2.2.2.1 == y.2.2.2.2.2.1))))))) = false := by simp
        by_cases h1 : g ≥ x.f0
        · rw [if_pos h1, if_neg (fun h2 => hn ⟨h1, h2⟩), if_neg q1, q2, if_neg (by simp)]; exact fin _ rfl
        · rw [if_neg h1, if_neg q1, q2, if_neg (by simp)]; exact fin _ rfl
    · rw [if_neg h0, add_bad h0]; rfl
end Go.Proofs.Ytpgfhgonkinldaa.Pure
