-- Written by this session's own call of the kit's print program (wip/tools/myprint.py): hand-made contracts stand in it for what that program does not cover. Lean checks all of it.
import Derived.Test.YtpgfhgonkinldaaAx0
import Derived.Test.YtpgfhgonkinldaaAx1
import Derived.Test.YtpgfhgonkinldaaAx4
import Derived.Test.YtpgfhgonkinldaaAx5
import Derived.Test.YtpgfhgonkinldaaAx6
import Derived.Test.YtpgfhgonkinldaaAx7
import Derived.Test.YtpgfhgonkinldaaAx11
namespace Go.Proofs.Ytpgfhgonkinldaa.A
open Go.RowKit Go.Proofs.YtpgfhgonkinldaaW.PrintWords Go.Proofs.YtpgfhgonkinldaaW.PrintLast Go.Proofs.YtpgfhgonkinldaaW.PrintMore
attribute [local go_sem] max2_int min2_int max_two min_two max_three min_three max_four min_four   -- for this text's walks alone
set_option linter.unusedVariables false
set_option linter.unusedSimpArgs false

attribute [local go_sem high] eqA25
/-! ### millpondlaw07_RegionHas: function 6 -/
def millpondlaw07_RegionHas.f (k : Nat) (l0 : List (S25)) (a1_0 : Int) (a1_1 : Int) (a1_2 : Int) (a1_3 : Int) (a1_4 : Int) (a1_5 : Bool) (a2 : Int) : Option (Bool) := (millpondlaw07_works.f k).bind fun t312 => (if t312 = true then (if (l0.length : Int) > 80 then (some t312) else ((region_Add.f l0 a1_0 a1_1 a1_2 a1_3 a1_4 a1_5).bind fun bt313 => (if bt313.2 = 0 then ((region_Find.f bt313.1 a2).bind fun bt317 => ((region_Find.f l0 a2).bind fun bt325 => (if a2 ≥ a1_0 then (if a2 < a1_1 then (if bt317.2.2.2.2.2.2 = true then (if bt325.2.2.2.2.2.2 = true then (some false) else (if (!(bt317.1 == a1_0) || (!(bt317.2.1 == a1_1) || (!(bt317.2.2.1 == a1_2) || (!(bt317.2.2.2.1 == a1_3) || (!(bt317.2.2.2.2.1 == a1_4) || (!(bt317.2.2.2.2.2.1 == a1_5))))))) = true then (some false) else ((region_Cut.f bt313.1 a1_0 a1_1).bind fun t333 => ((millpondref07_Same.f k t333 l0).bind fun t336 => (if t336 = true then ((region_Pages.f k bt313.1).bind fun t337 => ((region_Pages.f k l0).bind fun t338 => (if t337 = (wrap64 ((wrap64 (t338 + a1_1)) - a1_0)) then ((region_Right.f k bt313.1).bind fun t339 => (some t339)) else (some false)))) else (some false)))))) else (some false)) else (if (bt317.2.2.2.2.2.2 != bt325.2.2.2.2.2.2) = true then (some false) else (if (!(bt317.1 == bt325.1) || (!(bt317.2.1 == bt325.2.1) || (!(bt317.2.2.1 == bt325.2.2.1) || (!(bt317.2.2.2.1 == bt325.2.2.2.1) || (!(bt317.2.2.2.2.1 == bt325.2.2.2.2.1) || (!(bt317.2.2.2.2.2.1 == bt325.2.2.2.2.2.1))))))) = true then (some false) else ((region_Cut.f bt313.1 a1_0 a1_1).bind fun t340 => ((millpondref07_Same.f k t340 l0).bind fun t343 => (if t343 = true then ((region_Pages.f k bt313.1).bind fun t344 => ((region_Pages.f k l0).bind fun t345 => (if t344 = (wrap64 ((wrap64 (t345 + a1_1)) - a1_0)) then ((region_Right.f k bt313.1).bind fun t346 => (some t346)) else (some false)))) else (some false))))))) else (if (bt317.2.2.2.2.2.2 != bt325.2.2.2.2.2.2) = true then (some false) else (if (!(bt317.1 == bt325.1) || (!(bt317.2.1 == bt325.2.1) || (!(bt317.2.2.1 == bt325.2.2.1) || (!(bt317.2.2.2.1 == bt325.2.2.2.1) || (!(bt317.2.2.2.2.1 == bt325.2.2.2.2.1) || (!(bt317.2.2.2.2.2.1 == bt325.2.2.2.2.2.1))))))) = true then (some false) else ((region_Cut.f bt313.1 a1_0 a1_1).bind fun t347 => ((millpondref07_Same.f k t347 l0).bind fun t350 => (if t350 = true then ((region_Pages.f k bt313.1).bind fun t351 => ((region_Pages.f k l0).bind fun t352 => (if t351 = (wrap64 ((wrap64 (t352 + a1_1)) - a1_0)) then ((region_Right.f k bt313.1).bind fun t353 => (some t353)) else (some false)))) else (some false))))))))) else (some ((bt313.1.length : Int) == 0))))) else (some false))
theorem millpondlaw07_RegionHas.mono : ∀ a0 a1 a2 a3 a4 a5 a6 a7 k, LeO (millpondlaw07_RegionHas.f k a0 a1 a2 a3 a4 a5 a6 a7) (millpondlaw07_RegionHas.f (k + 1) a0 a1 a2 a3 a4 a5 a6 a7) := by
  intro a0 a1 a2 a3 a4 a5 a6 a7 k
  unfold millpondlaw07_RegionHas.f
  repeat' first
      | (with_reducible exact millpondlaw07_works.mono _)
      | (with_reducible exact millpondref07_Same.mono _ _ _)
      | (with_reducible exact region_Pages.mono _ _)
      | (with_reducible exact region_Right.mono _ _)
      | (with_reducible exact LeO.refl _)
      | (with_reducible exact LeO.none _)
      | (with_reducible refine LeO.ite ?_ ?_)
      | (with_reducible refine LeO.bind ?_ (fun _ => ?_))
      | exact millpondlaw07_works.mono _
      | exact millpondref07_Same.mono _ _ _
      | exact region_Pages.mono _ _
      | exact region_Right.mono _ _
      | exact LeO.none _
      | refine LeO.ite ?_ ?_
      | refine LeO.bind ?_ (fun _ => ?_)
def millpondlaw07_RegionHas.T17 : Bool × List (List Nat × List Nat) := (true, [([], []), ([0], [0]), ([1], [1]), ([1, 2], [1, 2]), ([3, 1], [3]), ([4], [4]), ([5, 4, 4], [4, 5]), ([4], [4]), ([7, 6, 4], [4, 7]), ([4], [4]), ([9, 4], [4, 9]), ([8, 10, 4], [4, 8, 10]), ([4], [4]), ([12, 4], [4, 12]), ([11, 13, 4], [4, 11, 13]), ([6, 14, 4], [4, 6, 14]), ([4, 15], [4, 15]), ([16, 8], [16]), ([17], [17]), ([18, 17, 17], [17, 18]), ([17, 19], [17, 19]), ([20, 19, 0, 1, 2, 3, 4, 5, 6, 7, 8, 9, 10, 11, 12, 13, 14, 15, 16, 17, 18, 19, 20], [20])])
def millpondlaw07_RegionHas.B17 : List Nat := [0, 1, 3, 7, 15, 31, 63, 31, 255, 31, 543, 2047, 31, 4127, 16383, 32767, 65535, 131071, 262143, 524287, 1048575, 2097151]
theorem millpondlaw07_RegionHas.tab17 : rtab .any (opsOf Try.f6 17) = millpondlaw07_RegionHas.T17 := by kernel_rfl
theorem millpondlaw07_RegionHas.bits17 : waitsOk millpondlaw07_RegionHas.T17.2 millpondlaw07_RegionHas.B17 = true := by kernel_rfl
set_option maxHeartbeats 8000000 in
set_option maxRecDepth 100000 in
theorem millpondlaw07_RegionHas.calls (k : Nat) (A0 : Option Addr) (c0 : Nat) (l0 : List (S25)) (a1_0 : Int) (a1_1 : Int) (a1_2 : Int) (a1_3 : Int) (a1_4 : Int) (a1_5 : Bool) (a2 : Int) (r : Bool) (w : World) (hr0 : Kd.C k25 w A0 l0.length l0) (hc0 : l0.length ≤ c0) (h : millpondlaw07_RegionHas.f k l0 a1_0 a1_1 a1_2 a1_3 a1_4 a1_5 a2 = some r) (hrT0 : r = true := by rfl) :
    Calls Try.prog 6 #[.slice A0 l0.length c0, .agg #[.int .i64 a1_0, .int .i64 a1_1, .int .i64 a1_2, .int .i64 a1_3, .int .i64 a1_4, .bool a1_5], .int .i64 a2] w fun e w' => e = .returned (.bool r) ∧ Below w.heap.size w w' := by
  have hrT : Aside0 (r = true) := ⟨hrT0⟩
  clear hrT0
  have hu25 := Try.underlying25
  have HR0 := Aside0.mk hr0
  have HC0 := Aside0.mk hc0
  clear hr0 hc0
  have HB := Aside0.mk (Below.refl w.heap.size w)
  have H : ((millpondlaw07_works.f k).bind fun t312 => (if t312 = true then (if (l0.length : Int) > 80 then (some t312) else ((region_Add.f l0 a1_0 a1_1 a1_2 a1_3 a1_4 a1_5).bind fun bt313 => (if bt313.2 = 0 then ((region_Find.f bt313.1 a2).bind fun bt317 => ((region_Find.f l0 a2).bind fun bt325 => (if a2 ≥ a1_0 then (if a2 < a1_1 then (if bt317.2.2.2.2.2.2 = true then (if bt325.2.2.2.2.2.2 = true then (some false) else (if (!(bt317.1 == a1_0) || (!(bt317.2.1 == a1_1) || (!(bt317.2.2.1 == a1_2) || (!(bt317.2.2.2.1 == a1_3) || (!(bt317.2.2.2.2.1 == a1_4) || (!(bt317.2.2.2.2.2.1 == a1_5))))))) = true then (some false) else ((region_Cut.f bt313.1 a1_0 a1_1).bind fun t333 => ((millpondref07_Same.f k t333 l0).bind fun t336 => (if t336 = true then ((region_Pages.f k bt313.1).bind fun t337 => ((region_Pages.f k l0).bind fun t338 => (if t337 = (wrap64 ((wrap64 (t338 + a1_1)) - a1_0)) then ((region_Right.f k bt313.1).bind fun t339 => (some t339)) else (some false)))) else (some false)))))) else (some false)) else (if (bt317.2.2.2.2.2.2 != bt325.2.2.2.2.2.2) = true then (some false) else (if (!(bt317.1 == bt325.1) || (!(bt317.2.1 == bt325.2.1) || (!(bt317.2.2.1 == bt325.2.2.1) || (!(bt317.2.2.2.1 == bt325.2.2.2.1) || (!(bt317.2.2.2.2.1 == bt325.2.2.2.2.1) || (!(bt317.2.2.2.2.2.1 == bt325.2.2.2.2.2.1))))))) = true then (some false) else ((region_Cut.f bt313.1 a1_0 a1_1).bind fun t340 => ((millpondref07_Same.f k t340 l0).bind fun t343 => (if t343 = true then ((region_Pages.f k bt313.1).bind fun t344 => ((region_Pages.f k l0).bind fun t345 => (if t344 = (wrap64 ((wrap64 (t345 + a1_1)) - a1_0)) then ((region_Right.f k bt313.1).bind fun t346 => (some t346)) else (some false)))) else (some false))))))) else (if (bt317.2.2.2.2.2.2 != bt325.2.2.2.2.2.2) = true then (some false) else (if (!(bt317.1 == bt325.1) || (!(bt317.2.1 == bt325.2.1) || (!(bt317.2.2.1 == bt325.2.2.1) || (!(bt317.2.2.2.1 == bt325.2.2.2.1) || (!(bt317.2.2.2.2.1 == bt325.2.2.2.2.1) || (!(bt317.2.2.2.2.2.1 == bt325.2.2.2.2.2.1))))))) = true then (some false) else ((region_Cut.f bt313.1 a1_0 a1_1).bind fun t347 => ((millpondref07_Same.f k t347 l0).bind fun t350 => (if t350 = true then ((region_Pages.f k bt313.1).bind fun t351 => ((region_Pages.f k l0).bind fun t352 => (if t351 = (wrap64 ((wrap64 (t352 + a1_1)) - a1_0)) then ((region_Right.f k bt313.1).bind fun t353 => (some t353)) else (some false)))) else (some false))))))))) else (some ((bt313.1.length : Int) == 0))))) else (some false))) = some r := h
  clear h
  replace H := Option.bind_eq_some_iff.mp H
  obtain ⟨t312, A40, H⟩ := H
  replace H : (if t312 = true then (if (l0.length : Int) > 80 then (some t312) else ((region_Add.f l0 a1_0 a1_1 a1_2 a1_3 a1_4 a1_5).bind fun bt313 => (if bt313.2 = 0 then ((region_Find.f bt313.1 a2).bind fun bt317 => ((region_Find.f l0 a2).bind fun bt325 => (if a2 ≥ a1_0 then (if a2 < a1_1 then (if bt317.2.2.2.2.2.2 = true then (if bt325.2.2.2.2.2.2 = true then (some false) else (if (!(bt317.1 == a1_0) || (!(bt317.2.1 == a1_1) || (!(bt317.2.2.1 == a1_2) || (!(bt317.2.2.2.1 == a1_3) || (!(bt317.2.2.2.2.1 == a1_4) || (!(bt317.2.2.2.2.2.1 == a1_5))))))) = true then (some false) else ((region_Cut.f bt313.1 a1_0 a1_1).bind fun t333 => ((millpondref07_Same.f k t333 l0).bind fun t336 => (if t336 = true then ((region_Pages.f k bt313.1).bind fun t337 => ((region_Pages.f k l0).bind fun t338 => (if t337 = (wrap64 ((wrap64 (t338 + a1_1)) - a1_0)) then ((region_Right.f k bt313.1).bind fun t339 => (some t339)) else (some false)))) else (some false)))))) else (some false)) else (if (bt317.2.2.2.2.2.2 != bt325.2.2.2.2.2.2) = true then (some false) else (if (!(bt317.1 == bt325.1) || (!(bt317.2.1 == bt325.2.1) || (!(bt317.2.2.1 == bt325.2.2.1) || (!(bt317.2.2.2.1 == bt325.2.2.2.1) || (!(bt317.2.2.2.2.1 == bt325.2.2.2.2.1) || (!(bt317.2.2.2.2.2.1 == bt325.2.2.2.2.2.1))))))) = true then (some false) else ((region_Cut.f bt313.1 a1_0 a1_1).bind fun t340 => ((millpondref07_Same.f k t340 l0).bind fun t343 => (if t343 = true then ((region_Pages.f k bt313.1).bind fun t344 => ((region_Pages.f k l0).bind fun t345 => (if t344 = (wrap64 ((wrap64 (t345 + a1_1)) - a1_0)) then ((region_Right.f k bt313.1).bind fun t346 => (some t346)) else (some false)))) else (some false))))))) else (if (bt317.2.2.2.2.2.2 != bt325.2.2.2.2.2.2) = true then (some false) else (if (!(bt317.1 == bt325.1) || (!(bt317.2.1 == bt325.2.1) || (!(bt317.2.2.1 == bt325.2.2.1) || (!(bt317.2.2.2.1 == bt325.2.2.2.1) || (!(bt317.2.2.2.2.1 == bt325.2.2.2.2.1) || (!(bt317.2.2.2.2.2.1 == bt325.2.2.2.2.2.1))))))) = true then (some false) else ((region_Cut.f bt313.1 a1_0 a1_1).bind fun t347 => ((millpondref07_Same.f k t347 l0).bind fun t350 => (if t350 = true then ((region_Pages.f k bt313.1).bind fun t351 => ((region_Pages.f k l0).bind fun t352 => (if t351 = (wrap64 ((wrap64 (t352 + a1_1)) - a1_0)) then ((region_Right.f k bt313.1).bind fun t353 => (some t353)) else (some false)))) else (some false))))))))) else (some ((bt313.1.length : Int) == 0))))) else (some false)) = some r := H
  have A4 := Aside0.mk A40
  clear A40
  by_cases c5 : t312 = true
  · subst c5
    have H1 : (if (l0.length : Int) > 80 then (some true) else ((region_Add.f l0 a1_0 a1_1 a1_2 a1_3 a1_4 a1_5).bind fun bt313 => (if bt313.2 = 0 then ((region_Find.f bt313.1 a2).bind fun bt317 => ((region_Find.f l0 a2).bind fun bt325 => (if a2 ≥ a1_0 then (if a2 < a1_1 then (if bt317.2.2.2.2.2.2 = true then (if bt325.2.2.2.2.2.2 = true then (some false) else (if (!(bt317.1 == a1_0) || (!(bt317.2.1 == a1_1) || (!(bt317.2.2.1 == a1_2) || (!(bt317.2.2.2.1 == a1_3) || (!(bt317.2.2.2.2.1 == a1_4) || (!(bt317.2.2.2.2.2.1 == a1_5))))))) = true then (some false) else ((region_Cut.f bt313.1 a1_0 a1_1).bind fun t333 => ((millpondref07_Same.f k t333 l0).bind fun t336 => (if t336 = true then ((region_Pages.f k bt313.1).bind fun t337 => ((region_Pages.f k l0).bind fun t338 => (if t337 = (wrap64 ((wrap64 (t338 + a1_1)) - a1_0)) then ((region_Right.f k bt313.1).bind fun t339 => (some t339)) else (some false)))) else (some false)))))) else (some false)) else (if (bt317.2.2.2.2.2.2 != bt325.2.2.2.2.2.2) = true then (some false) else (if (!(bt317.1 == bt325.1) || (!(bt317.2.1 == bt325.2.1) || (!(bt317.2.2.1 == bt325.2.2.1) || (!(bt317.2.2.2.1 == bt325.2.2.2.1) || (!(bt317.2.2.2.2.1 == bt325.2.2.2.2.1) || (!(bt317.2.2.2.2.2.1 == bt325.2.2.2.2.2.1))))))) = true then (some false) else ((region_Cut.f bt313.1 a1_0 a1_1).bind fun t340 => ((millpondref07_Same.f k t340 l0).bind fun t343 => (if t343 = true then ((region_Pages.f k bt313.1).bind fun t344 => ((region_Pages.f k l0).bind fun t345 => (if t344 = (wrap64 ((wrap64 (t345 + a1_1)) - a1_0)) then ((region_Right.f k bt313.1).bind fun t346 => (some t346)) else (some false)))) else (some false))))))) else (if (bt317.2.2.2.2.2.2 != bt325.2.2.2.2.2.2) = true then (some false) else (if (!(bt317.1 == bt325.1) || (!(bt317.2.1 == bt325.2.1) || (!(bt317.2.2.1 == bt325.2.2.1) || (!(bt317.2.2.2.1 == bt325.2.2.2.1) || (!(bt317.2.2.2.2.1 == bt325.2.2.2.2.1) || (!(bt317.2.2.2.2.2.1 == bt325.2.2.2.2.2.1))))))) = true then (some false) else ((region_Cut.f bt313.1 a1_0 a1_1).bind fun t347 => ((millpondref07_Same.f k t347 l0).bind fun t350 => (if t350 = true then ((region_Pages.f k bt313.1).bind fun t351 => ((region_Pages.f k l0).bind fun t352 => (if t351 = (wrap64 ((wrap64 (t352 + a1_1)) - a1_0)) then ((region_Right.f k bt313.1).bind fun t353 => (some t353)) else (some false)))) else (some false))))))))) else (some ((bt313.1.length : Int) == 0))))) = some r := by rw [if_pos rfl] at H; exact H
    clear H
    have H := H1
    clear H1
    by_cases c6 : (l0.length : Int) > 80
    · rw [if_pos c6] at H
      have c6b0 : decide (80 < (l0.length : Int)) = true := decide_eq_true c6
      have c6b1 : decide (80 < l0.length) = true := decide_eq_true (by omega)
      clear c6
      obtain rfl := Option.some.inj H
      go_enter Try.func6, Try.ntmps6
      go_wp2_with (first | ((with_reducible refine gate_dst (N := 4) rfl ?_); (try (refine gate_guard (by rfl) ?_; dsimp only)); refine box_event ?hg (N := 4) ?hd (cs := #[.int .i64 a1_0, .int .i64 a1_1, .int .i64 a1_2, .int .i64 a1_3, .int .i64 a1_4, .bool a1_5]) (t := 25) ?hr ?_; (case hd => rfl); (case hg => rfl); (case hr => first | (go_simp; done) | (go_simp; rfl)); intro gb311 hg w7 hbox hb; have n0_ := Aside0.mk (below_step (by repeat (first | (with_reducible first | exact HB.out | apply below_alloc | apply pw_below_drewN | apply below_drew1) | exact HB.out)) hb); have n1_ := Aside0.mk (hbox); have n2_ := Aside0.mk ((by rw [hg]; exact (below_size (by repeat (first | (with_reducible first | exact HB.out | apply below_alloc | apply pw_below_drewN | apply below_drew1) | exact HB.out))) : w.heap.size ≤ gb311)); have n3_ := Aside0.mk ((by rw [hg]; exact (below_size (by repeat (first | (with_reducible first | exact HB.out | apply below_alloc | apply pw_below_drewN | apply below_drew1) | exact HB.out))) : w.heap.size ≤ gb311)); clear HB; have HB := n0_; have BK311 := n1_; have GW311 := n2_; have GE311 := n3_; clear n0_ n1_ n2_ n3_; clear hb hbox hg) | ((with_reducible refine gate_callee (f := 10) rfl ?_); refine goesL_ (some 15) rfl rfl Try.func10 (by kernel_rfl) rfl #[] rfl (by (try simp only [List.map_toArray, List.map_cons, List.map_nil]); first | done | rfl | (simp only [List.length_drop, List.length_take]; rfl)) ?_; (with_reducible refine (millpondlaw07_works.calls k  true _ A4.out).mono ?_); rintro e w8 ⟨rfl, hb⟩; refine ⟨_, rfl, ?_⟩; have n0_ := Aside0.mk (blk_below (g := gb311) (o := .cells #[.int .i64 a1_0, .int .i64 a1_1, .int .i64 a1_2, .int .i64 a1_3, .int .i64 a1_4, .bool a1_5] 25 (0, 0)) (by (with_reducible repeat (first | refine blk_drewN ?_ _ | refine blk_drew ?_ | refine blk_alloc ?_ _)); exact BK311.out) hb); have n1_ := Aside0.mk (below_step (by repeat (first | (with_reducible first | exact HB.out | apply below_alloc | apply pw_below_drewN | apply below_drew1 | refine below_set ?_ GE311.out) | exact HB.out)) hb); clear BK311; clear HB; have BK311 := n0_; have HB := n1_; clear n0_ n1_; (try clear hb); (try clear hb2); (try clear hk); (try clear hi)))
      go_ret
      exact ⟨by first | rfl | (simp [errW_none, errW_some] <;> rfl) | (simp [*, errW_none, errW_some] <;> rfl), by repeat (first | (with_reducible first | exact HB.out | apply below_alloc | apply pw_below_drewN | apply below_drew1 | refine below_set ?_ GE311.out) | exact HB.out)⟩
    · rw [if_neg c6] at H
      have c6b0 : decide (80 < (l0.length : Int)) = false := decide_eq_false c6
      have c6b1 : decide (80 < l0.length) = false := decide_eq_false (by omega)
      clear c6
      replace H := Option.bind_eq_some_iff.mp H
      obtain ⟨⟨t313, t316⟩, A90, H⟩ := H
      replace H : (if t316 = 0 then ((region_Find.f t313 a2).bind fun bt317 => ((region_Find.f l0 a2).bind fun bt325 => (if a2 ≥ a1_0 then (if a2 < a1_1 then (if bt317.2.2.2.2.2.2 = true then (if bt325.2.2.2.2.2.2 = true then (some false) else (if (!(bt317.1 == a1_0) || (!(bt317.2.1 == a1_1) || (!(bt317.2.2.1 == a1_2) || (!(bt317.2.2.2.1 == a1_3) || (!(bt317.2.2.2.2.1 == a1_4) || (!(bt317.2.2.2.2.2.1 == a1_5))))))) = true then (some false) else ((region_Cut.f t313 a1_0 a1_1).bind fun t333 => ((millpondref07_Same.f k t333 l0).bind fun t336 => (if t336 = true then ((region_Pages.f k t313).bind fun t337 => ((region_Pages.f k l0).bind fun t338 => (if t337 = (wrap64 ((wrap64 (t338 + a1_1)) - a1_0)) then ((region_Right.f k t313).bind fun t339 => (some t339)) else (some false)))) else (some false)))))) else (some false)) else (if (bt317.2.2.2.2.2.2 != bt325.2.2.2.2.2.2) = true then (some false) else (if (!(bt317.1 == bt325.1) || (!(bt317.2.1 == bt325.2.1) || (!(bt317.2.2.1 == bt325.2.2.1) || (!(bt317.2.2.2.1 == bt325.2.2.2.1) || (!(bt317.2.2.2.2.1 == bt325.2.2.2.2.1) || (!(bt317.2.2.2.2.2.1 == bt325.2.2.2.2.2.1))))))) = true then (some false) else ((region_Cut.f t313 a1_0 a1_1).bind fun t340 => ((millpondref07_Same.f k t340 l0).bind fun t343 => (if t343 = true then ((region_Pages.f k t313).bind fun t344 => ((region_Pages.f k l0).bind fun t345 => (if t344 = (wrap64 ((wrap64 (t345 + a1_1)) - a1_0)) then ((region_Right.f k t313).bind fun t346 => (some t346)) else (some false)))) else (some false))))))) else (if (bt317.2.2.2.2.2.2 != bt325.2.2.2.2.2.2) = true then (some false) else (if (!(bt317.1 == bt325.1) || (!(bt317.2.1 == bt325.2.1) || (!(bt317.2.2.1 == bt325.2.2.1) || (!(bt317.2.2.2.1 == bt325.2.2.2.1) || (!(bt317.2.2.2.2.1 == bt325.2.2.2.2.1) || (!(bt317.2.2.2.2.2.1 == bt325.2.2.2.2.2.1))))))) = true then (some false) else ((region_Cut.f t313 a1_0 a1_1).bind fun t347 => ((millpondref07_Same.f k t347 l0).bind fun t350 => (if t350 = true then ((region_Pages.f k t313).bind fun t351 => ((region_Pages.f k l0).bind fun t352 => (if t351 = (wrap64 ((wrap64 (t352 + a1_1)) - a1_0)) then ((region_Right.f k t313).bind fun t353 => (some t353)) else (some false)))) else (some false))))))))) else (some ((t313.length : Int) == 0))) = some r := H
      have A9 := Aside0.mk A90
      clear A90
      by_cases c10 : t316 = 0
      · rw [if_pos c10] at H
        have c10b0 : (t316 == 0) = true := beq_iff_eq.mpr c10
        have c10b1 : (t316 != 0) = false := bne_eq_false_iff_eq.mpr c10
        clear c10
        replace H := Option.bind_eq_some_iff.mp H
        obtain ⟨⟨t317, t318, t319, t320, t321, t322, t323⟩, A110, H⟩ := H
        replace H : ((region_Find.f l0 a2).bind fun bt325 => (if a2 ≥ a1_0 then (if a2 < a1_1 then (if t323 = true then (if bt325.2.2.2.2.2.2 = true then (some false) else (if (!(t317 == a1_0) || (!(t318 == a1_1) || (!(t319 == a1_2) || (!(t320 == a1_3) || (!(t321 == a1_4) || (!(t322 == a1_5))))))) = true then (some false) else ((region_Cut.f t313 a1_0 a1_1).bind fun t333 => ((millpondref07_Same.f k t333 l0).bind fun t336 => (if t336 = true then ((region_Pages.f k t313).bind fun t337 => ((region_Pages.f k l0).bind fun t338 => (if t337 = (wrap64 ((wrap64 (t338 + a1_1)) - a1_0)) then ((region_Right.f k t313).bind fun t339 => (some t339)) else (some false)))) else (some false)))))) else (some false)) else (if (t323 != bt325.2.2.2.2.2.2) = true then (some false) else (if (!(t317 == bt325.1) || (!(t318 == bt325.2.1) || (!(t319 == bt325.2.2.1) || (!(t320 == bt325.2.2.2.1) || (!(t321 == bt325.2.2.2.2.1) || (!(t322 == bt325.2.2.2.2.2.1))))))) = true then (some false) else ((region_Cut.f t313 a1_0 a1_1).bind fun t340 => ((millpondref07_Same.f k t340 l0).bind fun t343 => (if t343 = true then ((region_Pages.f k t313).bind fun t344 => ((region_Pages.f k l0).bind fun t345 => (if t344 = (wrap64 ((wrap64 (t345 + a1_1)) - a1_0)) then ((region_Right.f k t313).bind fun t346 => (some t346)) else (some false)))) else (some false))))))) else (if (t323 != bt325.2.2.2.2.2.2) = true then (some false) else (if (!(t317 == bt325.1) || (!(t318 == bt325.2.1) || (!(t319 == bt325.2.2.1) || (!(t320 == bt325.2.2.2.1) || (!(t321 == bt325.2.2.2.2.1) || (!(t322 == bt325.2.2.2.2.2.1))))))) = true then (some false) else ((region_Cut.f t313 a1_0 a1_1).bind fun t347 => ((millpondref07_Same.f k t347 l0).bind fun t350 => (if t350 = true then ((region_Pages.f k t313).bind fun t351 => ((region_Pages.f k l0).bind fun t352 => (if t351 = (wrap64 ((wrap64 (t352 + a1_1)) - a1_0)) then ((region_Right.f k t313).bind fun t353 => (some t353)) else (some false)))) else (some false)))))))) = some r := H
        have A11 := Aside0.mk A110
        clear A110
        replace H := Option.bind_eq_some_iff.mp H
        obtain ⟨⟨t325, t326, t327, t328, t329, t330, t331⟩, A120, H⟩ := H
        replace H : (if a2 ≥ a1_0 then (if a2 < a1_1 then (if t323 = true then (if t331 = true then (some false) else (if (!(t317 == a1_0) || (!(t318 == a1_1) || (!(t319 == a1_2) || (!(t320 == a1_3) || (!(t321 == a1_4) || (!(t322 == a1_5))))))) = true then (some false) else ((region_Cut.f t313 a1_0 a1_1).bind fun t333 => ((millpondref07_Same.f k t333 l0).bind fun t336 => (if t336 = true then ((region_Pages.f k t313).bind fun t337 => ((region_Pages.f k l0).bind fun t338 => (if t337 = (wrap64 ((wrap64 (t338 + a1_1)) - a1_0)) then ((region_Right.f k t313).bind fun t339 => (some t339)) else (some false)))) else (some false)))))) else (some false)) else (if (t323 != t331) = true then (some false) else (if (!(t317 == t325) || (!(t318 == t326) || (!(t319 == t327) || (!(t320 == t328) || (!(t321 == t329) || (!(t322 == t330))))))) = true then (some false) else ((region_Cut.f t313 a1_0 a1_1).bind fun t340 => ((millpondref07_Same.f k t340 l0).bind fun t343 => (if t343 = true then ((region_Pages.f k t313).bind fun t344 => ((region_Pages.f k l0).bind fun t345 => (if t344 = (wrap64 ((wrap64 (t345 + a1_1)) - a1_0)) then ((region_Right.f k t313).bind fun t346 => (some t346)) else (some false)))) else (some false))))))) else (if (t323 != t331) = true then (some false) else (if (!(t317 == t325) || (!(t318 == t326) || (!(t319 == t327) || (!(t320 == t328) || (!(t321 == t329) || (!(t322 == t330))))))) = true then (some false) else ((region_Cut.f t313 a1_0 a1_1).bind fun t347 => ((millpondref07_Same.f k t347 l0).bind fun t350 => (if t350 = true then ((region_Pages.f k t313).bind fun t351 => ((region_Pages.f k l0).bind fun t352 => (if t351 = (wrap64 ((wrap64 (t352 + a1_1)) - a1_0)) then ((region_Right.f k t313).bind fun t353 => (some t353)) else (some false)))) else (some false))))))) = some r := H
        have A12 := Aside0.mk A120
        clear A120
        by_cases c13 : a2 ≥ a1_0
        · rw [if_pos c13] at H
          have c13b0 : decide (a1_0 ≤ a2) = true := decide_eq_true c13
          clear c13
          by_cases c14 : a2 < a1_1
          · rw [if_pos c14] at H
            have c14b0 : decide (a2 < a1_1) = true := decide_eq_true c14
            clear c14
            by_cases c15 : t323 = true
            · subst c15
              have H1 : (if t331 = true then (some false) else (if (!(t317 == a1_0) || (!(t318 == a1_1) || (!(t319 == a1_2) || (!(t320 == a1_3) || (!(t321 == a1_4) || (!(t322 == a1_5))))))) = true then (some false) else ((region_Cut.f t313 a1_0 a1_1).bind fun t333 => ((millpondref07_Same.f k t333 l0).bind fun t336 => (if t336 = true then ((region_Pages.f k t313).bind fun t337 => ((region_Pages.f k l0).bind fun t338 => (if t337 = (wrap64 ((wrap64 (t338 + a1_1)) - a1_0)) then ((region_Right.f k t313).bind fun t339 => (some t339)) else (some false)))) else (some false)))))) = some r := by rw [if_pos rfl] at H; exact H
              clear H
              have H := H1
              clear H1
              by_cases c16 : t331 = true
              · subst c16
                have H1 : (some false) = some r := by rw [if_pos rfl] at H; exact H
                clear H
                have H := H1
                clear H1
                exact absurd ((Option.some.inj H).trans hrT.out) (by decide)
              · replace c16 := Bool.eq_false_iff.mpr c16
                subst c16
                have H1 : (if (!(t317 == a1_0) || (!(t318 == a1_1) || (!(t319 == a1_2) || (!(t320 == a1_3) || (!(t321 == a1_4) || (!(t322 == a1_5))))))) = true then (some false) else ((region_Cut.f t313 a1_0 a1_1).bind fun t333 => ((millpondref07_Same.f k t333 l0).bind fun t336 => (if t336 = true then ((region_Pages.f k t313).bind fun t337 => ((region_Pages.f k l0).bind fun t338 => (if t337 = (wrap64 ((wrap64 (t338 + a1_1)) - a1_0)) then ((region_Right.f k t313).bind fun t339 => (some t339)) else (some false)))) else (some false))))) = some r := by rw [if_neg (show ¬ (false = true) by decide)] at H; exact H
                clear H
                have H := H1
                clear H1
                by_cases c32 : (!(t317 == a1_0) || (!(t318 == a1_1) || (!(t319 == a1_2) || (!(t320 == a1_3) || (!(t321 == a1_4) || (!(t322 == a1_5))))))) = true
                · rw [if_pos c32] at H
                  have c32b0 : (!(t317 == a1_0) || (!(t318 == a1_1) || (!(t319 == a1_2) || (!(t320 == a1_3) || (!(t321 == a1_4) || (!(t322 == a1_5))))))) = true := c32
                  clear c32
                  exact absurd ((Option.some.inj H).trans hrT.out) (by decide)
                · rw [if_neg c32] at H
                  have c32b0 : (!(t317 == a1_0) || (!(t318 == a1_1) || (!(t319 == a1_2) || (!(t320 == a1_3) || (!(t321 == a1_4) || (!(t322 == a1_5))))))) = false := by simpa using c32
                  clear c32
                  replace H := Option.bind_eq_some_iff.mp H
                  obtain ⟨t333, A490, H⟩ := H
                  replace H : ((millpondref07_Same.f k t333 l0).bind fun t336 => (if t336 = true then ((region_Pages.f k t313).bind fun t337 => ((region_Pages.f k l0).bind fun t338 => (if t337 = (wrap64 ((wrap64 (t338 + a1_1)) - a1_0)) then ((region_Right.f k t313).bind fun t339 => (some t339)) else (some false)))) else (some false))) = some r := H
                  have A49 := Aside0.mk A490
                  clear A490
                  replace H := Option.bind_eq_some_iff.mp H
                  obtain ⟨t336, A500, H⟩ := H
                  replace H : (if t336 = true then ((region_Pages.f k t313).bind fun t337 => ((region_Pages.f k l0).bind fun t338 => (if t337 = (wrap64 ((wrap64 (t338 + a1_1)) - a1_0)) then ((region_Right.f k t313).bind fun t339 => (some t339)) else (some false)))) else (some false)) = some r := H
                  have A50 := Aside0.mk A500
                  clear A500
                  by_cases c51 : t336 = true
                  · subst c51
                    have H1 : ((region_Pages.f k t313).bind fun t337 => ((region_Pages.f k l0).bind fun t338 => (if t337 = (wrap64 ((wrap64 (t338 + a1_1)) - a1_0)) then ((region_Right.f k t313).bind fun t339 => (some t339)) else (some false)))) = some r := by rw [if_pos rfl] at H; exact H
                    clear H
                    have H := H1
                    clear H1
                    replace H := Option.bind_eq_some_iff.mp H
                    obtain ⟨t337, A520, H⟩ := H
                    replace H : ((region_Pages.f k l0).bind fun t338 => (if t337 = (wrap64 ((wrap64 (t338 + a1_1)) - a1_0)) then ((region_Right.f k t313).bind fun t339 => (some t339)) else (some false))) = some r := H
                    have A52 := Aside0.mk A520
                    clear A520
                    replace H := Option.bind_eq_some_iff.mp H
                    obtain ⟨t338, A530, H⟩ := H
                    replace H : (if t337 = (wrap64 ((wrap64 (t338 + a1_1)) - a1_0)) then ((region_Right.f k t313).bind fun t339 => (some t339)) else (some false)) = some r := H
                    have A53 := Aside0.mk A530
                    clear A530
                    by_cases c54 : t337 = (wrap64 ((wrap64 (t338 + a1_1)) - a1_0))
                    · rw [if_pos c54] at H
                      have c54b0 : (t337 == (wrap64 ((wrap64 (t338 + a1_1)) - a1_0))) = true := beq_iff_eq.mpr c54
                      have c54b1 : (t337 != (wrap64 ((wrap64 (t338 + a1_1)) - a1_0))) = false := bne_eq_false_iff_eq.mpr c54
                      clear c54
                      replace H := Option.bind_eq_some_iff.mp H
                      obtain ⟨t339, A550, H⟩ := H
                      replace H : (some t339) = some r := H
                      have A55 := Aside0.mk A550
                      clear A550
                      obtain rfl := Option.some.inj H
                      go_enter Try.func6, Try.ntmps6
                      try go_wp2_with (first | ((with_reducible refine gate_dst (N := 4) rfl ?_); (try (refine gate_guard (by rfl) ?_; dsimp only)); refine box_event ?hg (N := 4) ?hd (cs := #[.int .i64 a1_0, .int .i64 a1_1, .int .i64 a1_2, .int .i64 a1_3, .int .i64 a1_4, .bool a1_5]) (t := 25) ?hr ?_; (case hd => rfl); (case hg => rfl); (case hr => first | (go_simp; done) | (go_simp; rfl)); intro gb311 hg w56 hbox hb; have n0_ := Aside0.mk (below_step (by repeat (first | (with_reducible first | exact HB.out | apply below_alloc | apply pw_below_drewN | apply below_drew1) | exact HB.out)) hb); have n1_ := Aside0.mk (hbox); have n2_ := Aside0.mk ((by rw [hg]; exact (below_size (by repeat (first | (with_reducible first | exact HB.out | apply below_alloc | apply pw_below_drewN | apply below_drew1) | exact HB.out))) : w.heap.size ≤ gb311)); have n3_ := Aside0.mk ((by rw [hg]; exact (below_size (by repeat (first | (with_reducible first | exact HB.out | apply below_alloc | apply pw_below_drewN | apply below_drew1) | exact HB.out))) : w.heap.size ≤ gb311)); clear HB; have HB := n0_; have BK311 := n1_; have GW311 := n2_; have GE311 := n3_; clear n0_ n1_ n2_ n3_; clear hb hbox hg) | ((with_reducible refine gate_callee (f := 10) rfl ?_); refine goesL_ (some 15) rfl rfl Try.func10 (by kernel_rfl) rfl #[] rfl (by (try simp only [List.map_toArray, List.map_cons, List.map_nil]); first | done | rfl | (simp only [List.length_drop, List.length_take]; rfl)) ?_; (with_reducible refine (millpondlaw07_works.calls k  true _ A4.out).mono ?_); rintro e w57 ⟨rfl, hb⟩; refine ⟨_, rfl, ?_⟩; have n0_ := Aside0.mk (blk_below (g := gb311) (o := .cells #[.int .i64 a1_0, .int .i64 a1_1, .int .i64 a1_2, .int .i64 a1_3, .int .i64 a1_4, .bool a1_5] 25 (0, 0)) (by (with_reducible repeat (first | refine blk_drewN ?_ _ | refine blk_drew ?_ | refine blk_alloc ?_ _)); exact BK311.out) hb); have n1_ := Aside0.mk (below_step (by repeat (first | (with_reducible first | exact HB.out | apply below_alloc | apply pw_below_drewN | apply below_drew1 | refine below_set ?_ GE311.out) | exact HB.out)) hb); clear BK311; clear HB; have BK311 := n0_; have HB := n1_; clear n0_ n1_; (try clear hb); (try clear hb2); (try clear hk); (try clear hi); have hcz58_0 : w57.cell? ⟨gb311, 0, none⟩ = some (.int .i64 a1_0) := (blk_cell BK311.out 0).trans rfl; have hcz58_1 : w57.cell? ⟨gb311, 1, none⟩ = some (.int .i64 a1_1) := (blk_cell BK311.out 1).trans rfl; have hcz58_2 : w57.cell? ⟨gb311, 2, none⟩ = some (.int .i64 a1_2) := (blk_cell BK311.out 2).trans rfl; have hcz58_3 : w57.cell? ⟨gb311, 3, none⟩ = some (.int .i64 a1_3) := (blk_cell BK311.out 3).trans rfl; have hcz58_4 : w57.cell? ⟨gb311, 4, none⟩ = some (.int .i64 a1_4) := (blk_cell BK311.out 4).trans rfl; have hcz58_5 : w57.cell? ⟨gb311, 5, none⟩ = some (.bool a1_5) := (blk_cell BK311.out 5).trans rfl; have hfz58_0 := blk_frozen BK311.out 0; have hfz58_1 := blk_frozen BK311.out 1; have hfz58_2 := blk_frozen BK311.out 2; have hfz58_3 := blk_frozen BK311.out 3; have hfz58_4 := blk_frozen BK311.out 4; have hfz58_5 := blk_frozen BK311.out 5) | ((with_reducible refine gate_callee (f := 11) rfl ?_); refine goesL_ (some 25) rfl rfl Try.func11 (by kernel_rfl) rfl #[.slice A0 l0.length c0, .agg #[.int .i64 a1_0, .int .i64 a1_1, .int .i64 a1_2, .int .i64 a1_3, .int .i64 a1_4, .bool a1_5]] rfl (by (try simp only [List.map_toArray, List.map_cons, List.map_nil]); first | done | rfl | (simp only [List.length_drop, List.length_take]; rfl)) ?_; (with_reducible refine (region_Add.calls _ _ l0 a1_0 a1_1 a1_2 a1_3 a1_4 a1_5 t313 t316 _ ?side1 ?side2 A9.out).mono ?_); (case side1 => repeat (first | exact (Kd.C_below HR0.out HB.out) | (with_reducible refine Kd.C_alloc ?_ _) | (with_reducible refine Kd.C_drewN ?_ _) | (with_reducible refine Kd.C_drew ?_))); (case side2 => exact HC0.out); rintro e w59 ⟨v314, rfl, ho0, hb⟩; refine ⟨_, rfl, ?_⟩; have n0_ := Aside0.mk (Kd.R_lower (Kd.R_newB ho0 (g := gb311) (o := .cells #[.int .i64 a1_0, .int .i64 a1_1, .int .i64 a1_2, .int .i64 a1_3, .int .i64 a1_4, .bool a1_5] 25 (0, 0)) (by (with_reducible repeat (first | refine blk_drewN ?_ _ | refine blk_drew ?_ | refine blk_alloc ?_ _)); exact BK311.out)) (below_size (by repeat (first | (with_reducible first | exact HB.out | apply below_alloc | apply pw_below_drewN | apply below_drew1 | refine below_set ?_ GE311.out) | exact HB.out)))); have n1_ := Aside0.mk (blk_below (g := gb311) (o := .cells #[.int .i64 a1_0, .int .i64 a1_1, .int .i64 a1_2, .int .i64 a1_3, .int .i64 a1_4, .bool a1_5] 25 (0, 0)) (by (with_reducible repeat (first | refine blk_drewN ?_ _ | refine blk_drew ?_ | refine blk_alloc ?_ _)); exact BK311.out) hb); have n2_ := Aside0.mk (below_step (by repeat (first | (with_reducible first | exact HB.out | apply below_alloc | apply pw_below_drewN | apply below_drew1 | refine below_set ?_ GE311.out) | exact HB.out)) hb); clear BK311; clear HB; have HO315 := n0_; have BK311 := n1_; have HB := n2_; clear n0_ n1_ n2_; (try clear hb); (try clear hb2); (try clear hk); (try clear hi); (try clear ho0); obtain ⟨Ao60, co60, eo60⟩ := Kd.R_slice HO315.out; subst eo60) | ((with_reducible refine gate_callee (f := 13) rfl ?_); refine goesL_ (some 39) rfl rfl Try.func13 (by kernel_rfl) rfl #[.slice Ao60 t313.length co60, .int .i64 a2] rfl (by (try simp only [List.map_toArray, List.map_cons, List.map_nil]); first | done | rfl | (simp only [List.length_drop, List.length_take]; rfl)) ?_; (with_reducible refine (region_Find.calls _ _ t313 a2 t317 t318 t319 t320 t321 t322 true _ ?side1 ?side2 A11.out).mono ?_); (case side1 => repeat (first | exact (Kd.R_reads' HO315.out).2.2 | (with_reducible refine Kd.C_alloc ?_ _) | (with_reducible refine Kd.C_drewN ?_ _) | (with_reducible refine Kd.C_drew ?_))); (case side2 => exact (Kd.R_reads' HO315.out).2.1); rintro e w61 ⟨rfl, hb⟩; refine ⟨_, rfl, ?_⟩; have n0_ := Aside0.mk (Kd.R_below (by (with_reducible repeat (first | apply Kd.R_alloc | apply Kd.R_drewN | apply Kd.R_drew)); exact HO315.out) hb); have n1_ := Aside0.mk (blk_below (g := gb311) (o := .cells #[.int .i64 a1_0, .int .i64 a1_1, .int .i64 a1_2, .int .i64 a1_3, .int .i64 a1_4, .bool a1_5] 25 (0, 0)) (by (with_reducible repeat (first | refine blk_drewN ?_ _ | refine blk_drew ?_ | refine blk_alloc ?_ _)); exact BK311.out) hb); have n2_ := Aside0.mk (below_step (by repeat (first | (with_reducible first | exact HB.out | apply below_alloc | apply pw_below_drewN | apply below_drew1 | refine below_set ?_ GE311.out) | exact HB.out)) hb); clear HO315; clear BK311; clear HB; have HO315 := n0_; have BK311 := n1_; have HB := n2_; clear n0_ n1_ n2_; (try clear hb); (try clear hb2); (try clear hk); (try clear hi)) | ((with_reducible refine gate_dst (N := 10) rfl ?_); (try (refine gate_guard (by rfl) ?_; dsimp only)); refine box_event ?hg (N := 10) ?hd (cs := #[.int .i64 0, .int .i64 0, .int .i64 0, .int .i64 0, .int .i64 0, .bool false]) (t := 25) ?hr ?_; (case hd => rfl); (case hg => rfl); (case hr => first | (go_simp; done) | (go_simp; rfl)); intro gb324 hg w62 hbox hb; have n0_ := Aside0.mk (Kd.R_below (Kd.R_elderB (by (with_reducible repeat (first | apply Kd.R_alloc | apply Kd.R_drewN | apply Kd.R_drew)); exact HO315.out) gb324 (Nat.le_of_eq hg.symm)) hb); have n1_ := Aside0.mk (blk_below (g := gb311) (o := .cells #[.int .i64 a1_0, .int .i64 a1_1, .int .i64 a1_2, .int .i64 a1_3, .int .i64 a1_4, .bool a1_5] 25 (0, 0)) (by (with_reducible repeat (first | refine blk_drewN ?_ _ | refine blk_drew ?_ | refine blk_alloc ?_ _)); exact BK311.out) hb); have n2_ := Aside0.mk (below_step (by repeat (first | (with_reducible first | exact HB.out | apply below_alloc | apply pw_below_drewN | apply below_drew1 | refine below_set ?_ GE311.out) | exact HB.out)) hb); have n3_ := Aside0.mk (hbox); have n4_ := Aside0.mk ((by rw [hg]; exact (below_size (by repeat (first | (with_reducible first | exact HB.out | apply below_alloc | apply pw_below_drewN | apply below_drew1 | refine below_set ?_ GE311.out) | exact HB.out))) : w.heap.size ≤ gb324)); have n5_ := Aside0.mk ((by rw [hg]; exact (below_size (by repeat (first | (with_reducible first | exact HB.out | apply below_alloc | apply pw_below_drewN | apply below_drew1 | refine below_set ?_ GE311.out) | exact HB.out))) : w.heap.size ≤ gb324)); have n6_ := Aside0.mk ((by rw [hg]; exact Nat.ne_of_lt (blk_lt (g := gb311) (o := .cells #[.int .i64 a1_0, .int .i64 a1_1, .int .i64 a1_2, .int .i64 a1_3, .int .i64 a1_4, .bool a1_5] 25 (0, 0)) (by (with_reducible repeat (first | refine blk_drewN ?_ _ | refine blk_drew ?_ | refine blk_alloc ?_ _)); exact BK311.out)) : gb311 ≠ gb324)); have n7_ := Aside0.mk ((by rw [hg]; exact Nat.ne_of_gt (blk_lt (g := gb311) (o := .cells #[.int .i64 a1_0, .int .i64 a1_1, .int .i64 a1_2, .int .i64 a1_3, .int .i64 a1_4, .bool a1_5] 25 (0, 0)) (by (with_reducible repeat (first | refine blk_drewN ?_ _ | refine blk_drew ?_ | refine blk_alloc ?_ _)); exact BK311.out)) : gb324 ≠ gb311)); clear HO315; clear BK311; clear HB; have HO315 := n0_; have BK311 := n1_; have HB := n2_; have BK324 := n3_; have GW324 := n4_; have GE324 := n5_; have NB311_324 := n6_; have NB324_311 := n7_; clear n0_ n1_ n2_ n3_ n4_ n5_ n6_ n7_; clear hb hbox hg; have hnb63 := NB324_311.out; have hnc63 := NB311_324.out; have hcz64_0 : w62.cell? ⟨gb324, 0, none⟩ = some (.int .i64 0) := (blk_cell BK324.out 0).trans rfl; have hcz64_1 : w62.cell? ⟨gb324, 1, none⟩ = some (.int .i64 0) := (blk_cell BK324.out 1).trans rfl; have hcz64_2 : w62.cell? ⟨gb324, 2, none⟩ = some (.int .i64 0) := (blk_cell BK324.out 2).trans rfl; have hcz64_3 : w62.cell? ⟨gb324, 3, none⟩ = some (.int .i64 0) := (blk_cell BK324.out 3).trans rfl; have hcz64_4 : w62.cell? ⟨gb324, 4, none⟩ = some (.int .i64 0) := (blk_cell BK324.out 4).trans rfl; have hcz64_5 : w62.cell? ⟨gb324, 5, none⟩ = some (.bool false) := (blk_cell BK324.out 5).trans rfl; have hfz64_0 := blk_frozen BK324.out 0; have hfz64_1 := blk_frozen BK324.out 1; have hfz64_2 := blk_frozen BK324.out 2; have hfz64_3 := blk_frozen BK324.out 3; have hfz64_4 := blk_frozen BK324.out 4; have hfz64_5 := blk_frozen BK324.out 5) | ((with_reducible refine gate_callee (f := 13) rfl ?_); refine goesL_ (some 45) rfl rfl Try.func13 (by kernel_rfl) rfl #[.slice A0 l0.length c0, .int .i64 a2] rfl (by (try simp only [List.map_toArray, List.map_cons, List.map_nil]); first | done | rfl | (simp only [List.length_drop, List.length_take]; rfl)) ?_; (with_reducible refine (region_Find.calls _ _ l0 a2 t325 t326 t327 t328 t329 t330 false _ ?side1 ?side2 A12.out).mono ?_); (case side1 => exact Kd.C_below HR0.out (by repeat (first | (with_reducible first | exact HB.out | apply below_alloc | apply pw_below_drewN | apply below_drew1 | refine below_set ?_ GE311.out | refine below_set ?_ GE324.out) | exact HB.out))); (case side2 => exact HC0.out); rintro e w65 ⟨rfl, hb⟩; refine ⟨_, rfl, ?_⟩; have n0_ := Aside0.mk (Kd.R_below (by (with_reducible repeat (first | apply Kd.R_alloc | apply Kd.R_drewN | apply Kd.R_drew)); exact (Kd.R_mono (Kd.R_far (p := ⟨gb324, 5, none⟩) (Kd.R_far (p := ⟨gb324, 4, none⟩) (Kd.R_far (p := ⟨gb324, 3, none⟩) (Kd.R_far (p := ⟨gb324, 2, none⟩) (Kd.R_far (p := ⟨gb324, 1, none⟩) (Kd.R_far (p := ⟨gb324, 0, none⟩) (Kd.R_mono HO315.out (fun k_ hk => (⟨hk, hk.2⟩ : _ ∧ k_ ≠ gb324))) (fun _ hk => hk.2) (.int .i64 t317)) (fun _ hk => hk.2) (.int .i64 t318)) (fun _ hk => hk.2) (.int .i64 t319)) (fun _ hk => hk.2) (.int .i64 t320)) (fun _ hk => hk.2) (.int .i64 t321)) (fun _ hk => hk.2) (.bool t322)) (fun _ h_ => h_.1))) hb); have n1_ := Aside0.mk (blk_below (g := gb311) (o := .cells #[.int .i64 a1_0, .int .i64 a1_1, .int .i64 a1_2, .int .i64 a1_3, .int .i64 a1_4, .bool a1_5] 25 (0, 0)) (by (with_reducible repeat (first | refine blk_drewN ?_ _ | refine blk_drew ?_ | refine blk_alloc ?_ _)); refine blk_far ?_ NB311_324.out _; (with_reducible repeat (first | refine blk_drewN ?_ _ | refine blk_drew ?_ | refine blk_alloc ?_ _)); refine blk_far ?_ NB311_324.out _; (with_reducible repeat (first | refine blk_drewN ?_ _ | refine blk_drew ?_ | refine blk_alloc ?_ _)); refine blk_far ?_ NB311_324.out _; (with_reducible repeat (first | refine blk_drewN ?_ _ | refine blk_drew ?_ | refine blk_alloc ?_ _)); refine blk_far ?_ NB311_324.out _; (with_reducible repeat (first | refine blk_drewN ?_ _ | refine blk_drew ?_ | refine blk_alloc ?_ _)); refine blk_far ?_ NB311_324.out _; (with_reducible repeat (first | refine blk_drewN ?_ _ | refine blk_drew ?_ | refine blk_alloc ?_ _)); refine blk_far ?_ NB311_324.out _; (with_reducible repeat (first | refine blk_drewN ?_ _ | refine blk_drew ?_ | refine blk_alloc ?_ _)); exact BK311.out) hb); have n2_ := Aside0.mk (blk_below (g := gb324) (o := .cells #[.int .i64 t317, .int .i64 t318, .int .i64 t319, .int .i64 t320, .int .i64 t321, .bool t322] 25 (0, 0)) (by (with_reducible repeat (first | refine blk_drewN ?_ _ | refine blk_drew ?_ | refine blk_alloc ?_ _)); refine blk_put (cs := #[.int .i64 t317, .int .i64 t318, .int .i64 t319, .int .i64 t320, .int .i64 t321, .bool false]) ?_ 5 _ rfl; (with_reducible repeat (first | refine blk_drewN ?_ _ | refine blk_drew ?_ | refine blk_alloc ?_ _)); refine blk_put (cs := #[.int .i64 t317, .int .i64 t318, .int .i64 t319, .int .i64 t320, .int .i64 0, .bool false]) ?_ 4 _ rfl; (with_reducible repeat (first | refine blk_drewN ?_ _ | refine blk_drew ?_ | refine blk_alloc ?_ _)); refine blk_put (cs := #[.int .i64 t317, .int .i64 t318, .int .i64 t319, .int .i64 0, .int .i64 0, .bool false]) ?_ 3 _ rfl; (with_reducible repeat (first | refine blk_drewN ?_ _ | refine blk_drew ?_ | refine blk_alloc ?_ _)); refine blk_put (cs := #[.int .i64 t317, .int .i64 t318, .int .i64 0, .int .i64 0, .int .i64 0, .bool false]) ?_ 2 _ rfl; (with_reducible repeat (first | refine blk_drewN ?_ _ | refine blk_drew ?_ | refine blk_alloc ?_ _)); refine blk_put (cs := #[.int .i64 t317, .int .i64 0, .int .i64 0, .int .i64 0, .int .i64 0, .bool false]) ?_ 1 _ rfl; (with_reducible repeat (first | refine blk_drewN ?_ _ | refine blk_drew ?_ | refine blk_alloc ?_ _)); refine blk_put (cs := #[.int .i64 0, .int .i64 0, .int .i64 0, .int .i64 0, .int .i64 0, .bool false]) ?_ 0 _ rfl; (with_reducible repeat (first | refine blk_drewN ?_ _ | refine blk_drew ?_ | refine blk_alloc ?_ _)); exact BK324.out) hb); have n3_ := Aside0.mk (below_step (by repeat (first | (with_reducible first | exact HB.out | apply below_alloc | apply pw_below_drewN | apply below_drew1 | refine below_set ?_ GE311.out | refine below_set ?_ GE324.out) | exact HB.out)) hb); clear HO315; clear BK311; clear BK324; clear HB; have HO315 := n0_; have BK311 := n1_; have BK324 := n2_; have HB := n3_; clear n0_ n1_ n2_ n3_; (try clear hb); (try clear hb2); (try clear hk); (try clear hi)) | ((with_reducible refine gate_dst (N := 12) rfl ?_); (try (refine gate_guard (by rfl) ?_; dsimp only)); refine box_event ?hg (N := 12) ?hd (cs := #[.int .i64 0, .int .i64 0, .int .i64 0, .int .i64 0, .int .i64 0, .bool false]) (t := 25) ?hr ?_; (case hd => rfl); (case hg => rfl); (case hr => first | (go_simp; done) | (go_simp; rfl)); intro gb332 hg w66 hbox hb; have n0_ := Aside0.mk (Kd.R_below (Kd.R_elderB (by (with_reducible repeat (first | apply Kd.R_alloc | apply Kd.R_drewN | apply Kd.R_drew)); exact HO315.out) gb332 (Nat.le_of_eq hg.symm)) hb); have n1_ := Aside0.mk (blk_below (g := gb311) (o := .cells #[.int .i64 a1_0, .int .i64 a1_1, .int .i64 a1_2, .int .i64 a1_3, .int .i64 a1_4, .bool a1_5] 25 (0, 0)) (by (with_reducible repeat (first | refine blk_drewN ?_ _ | refine blk_drew ?_ | refine blk_alloc ?_ _)); exact BK311.out) hb); have n2_ := Aside0.mk (blk_below (g := gb324) (o := .cells #[.int .i64 t317, .int .i64 t318, .int .i64 t319, .int .i64 t320, .int .i64 t321, .bool t322] 25 (0, 0)) (by (with_reducible repeat (first | refine blk_drewN ?_ _ | refine blk_drew ?_ | refine blk_alloc ?_ _)); exact BK324.out) hb); have n3_ := Aside0.mk (below_step (by repeat (first | (with_reducible first | exact HB.out | apply below_alloc | apply pw_below_drewN | apply below_drew1 | refine below_set ?_ GE311.out | refine below_set ?_ GE324.out) | exact HB.out)) hb); have n4_ := Aside0.mk (hbox); have n5_ := Aside0.mk ((by rw [hg]; exact (below_size (by repeat (first | (with_reducible first | exact HB.out | apply below_alloc | apply pw_below_drewN | apply below_drew1 | refine below_set ?_ GE311.out | refine below_set ?_ GE324.out) | exact HB.out))) : w.heap.size ≤ gb332)); have n6_ := Aside0.mk ((by rw [hg]; exact (below_size (by repeat (first | (with_reducible first | exact HB.out | apply below_alloc | apply pw_below_drewN | apply below_drew1 | refine below_set ?_ GE311.out | refine below_set ?_ GE324.out) | exact HB.out))) : w.heap.size ≤ gb332)); have n7_ := Aside0.mk ((by rw [hg]; exact Nat.ne_of_lt (blk_lt (g := gb311) (o := .cells #[.int .i64 a1_0, .int .i64 a1_1, .int .i64 a1_2, .int .i64 a1_3, .int .i64 a1_4, .bool a1_5] 25 (0, 0)) (by (with_reducible repeat (first | refine blk_drewN ?_ _ | refine blk_drew ?_ | refine blk_alloc ?_ _)); exact BK311.out)) : gb311 ≠ gb332)); have n8_ := Aside0.mk ((by rw [hg]; exact Nat.ne_of_gt (blk_lt (g := gb311) (o := .cells #[.int .i64 a1_0, .int .i64 a1_1, .int .i64 a1_2, .int .i64 a1_3, .int .i64 a1_4, .bool a1_5] 25 (0, 0)) (by (with_reducible repeat (first | refine blk_drewN ?_ _ | refine blk_drew ?_ | refine blk_alloc ?_ _)); exact BK311.out)) : gb332 ≠ gb311)); have n9_ := Aside0.mk ((by rw [hg]; exact Nat.ne_of_lt (blk_lt (g := gb324) (o := .cells #[.int .i64 t317, .int .i64 t318, .int .i64 t319, .int .i64 t320, .int .i64 t321, .bool t322] 25 (0, 0)) (by (with_reducible repeat (first | refine blk_drewN ?_ _ | refine blk_drew ?_ | refine blk_alloc ?_ _)); exact BK324.out)) : gb324 ≠ gb332)); have n10_ := Aside0.mk ((by rw [hg]; exact Nat.ne_of_gt (blk_lt (g := gb324) (o := .cells #[.int .i64 t317, .int .i64 t318, .int .i64 t319, .int .i64 t320, .int .i64 t321, .bool t322] 25 (0, 0)) (by (with_reducible repeat (first | refine blk_drewN ?_ _ | refine blk_drew ?_ | refine blk_alloc ?_ _)); exact BK324.out)) : gb332 ≠ gb324)); clear HO315; clear BK311; clear BK324; clear HB; have HO315 := n0_; have BK311 := n1_; have BK324 := n2_; have HB := n3_; have BK332 := n4_; have GW332 := n5_; have GE332 := n6_; have NB311_332 := n7_; have NB332_311 := n8_; have NB324_332 := n9_; have NB332_324 := n10_; clear n0_ n1_ n2_ n3_ n4_ n5_ n6_ n7_ n8_ n9_ n10_; clear hb hbox hg; have hnb67 := NB332_311.out; have hnc67 := NB311_332.out; have hnb68 := NB332_324.out; have hnc68 := NB324_332.out; have hcz69_0 : w66.cell? ⟨gb332, 0, none⟩ = some (.int .i64 0) := (blk_cell BK332.out 0).trans rfl; have hcz69_1 : w66.cell? ⟨gb332, 1, none⟩ = some (.int .i64 0) := (blk_cell BK332.out 1).trans rfl; have hcz69_2 : w66.cell? ⟨gb332, 2, none⟩ = some (.int .i64 0) := (blk_cell BK332.out 2).trans rfl; have hcz69_3 : w66.cell? ⟨gb332, 3, none⟩ = some (.int .i64 0) := (blk_cell BK332.out 3).trans rfl; have hcz69_4 : w66.cell? ⟨gb332, 4, none⟩ = some (.int .i64 0) := (blk_cell BK332.out 4).trans rfl; have hcz69_5 : w66.cell? ⟨gb332, 5, none⟩ = some (.bool false) := (blk_cell BK332.out 5).trans rfl; have hfz69_0 := blk_frozen BK332.out 0; have hfz69_1 := blk_frozen BK332.out 1; have hfz69_2 := blk_frozen BK332.out 2; have hfz69_3 := blk_frozen BK332.out 3; have hfz69_4 := blk_frozen BK332.out 4; have hfz69_5 := blk_frozen BK332.out 5; have hcz70_0 : w66.cell? ⟨gb311, 0, none⟩ = some (.int .i64 a1_0) := (blk_cell BK311.out 0).trans rfl; have hcz70_1 : w66.cell? ⟨gb311, 1, none⟩ = some (.int .i64 a1_1) := (blk_cell BK311.out 1).trans rfl; have hcz70_2 : w66.cell? ⟨gb311, 2, none⟩ = some (.int .i64 a1_2) := (blk_cell BK311.out 2).trans rfl; have hcz70_3 : w66.cell? ⟨gb311, 3, none⟩ = some (.int .i64 a1_3) := (blk_cell BK311.out 3).trans rfl; have hcz70_4 : w66.cell? ⟨gb311, 4, none⟩ = some (.int .i64 a1_4) := (blk_cell BK311.out 4).trans rfl; have hcz70_5 : w66.cell? ⟨gb311, 5, none⟩ = some (.bool a1_5) := (blk_cell BK311.out 5).trans rfl; have hfz70_0 := blk_frozen BK311.out 0; have hfz70_1 := blk_frozen BK311.out 1; have hfz70_2 := blk_frozen BK311.out 2; have hfz70_3 := blk_frozen BK311.out 3; have hfz70_4 := blk_frozen BK311.out 4; have hfz70_5 := blk_frozen BK311.out 5; have hcz71_0 : w66.cell? ⟨gb324, 0, none⟩ = some (.int .i64 t317) := (blk_cell BK324.out 0).trans rfl; have hcz71_1 : w66.cell? ⟨gb324, 1, none⟩ = some (.int .i64 t318) := (blk_cell BK324.out 1).trans rfl; have hcz71_2 : w66.cell? ⟨gb324, 2, none⟩ = some (.int .i64 t319) := (blk_cell BK324.out 2).trans rfl; have hcz71_3 : w66.cell? ⟨gb324, 3, none⟩ = some (.int .i64 t320) := (blk_cell BK324.out 3).trans rfl; have hcz71_4 : w66.cell? ⟨gb324, 4, none⟩ = some (.int .i64 t321) := (blk_cell BK324.out 4).trans rfl; have hcz71_5 : w66.cell? ⟨gb324, 5, none⟩ = some (.bool t322) := (blk_cell BK324.out 5).trans rfl; have hfz71_0 := blk_frozen BK324.out 0; have hfz71_1 := blk_frozen BK324.out 1; have hfz71_2 := blk_frozen BK324.out 2; have hfz71_3 := blk_frozen BK324.out 3; have hfz71_4 := blk_frozen BK324.out 4; have hfz71_5 := blk_frozen BK324.out 5) | ((with_reducible refine gate_callee (f := 24) rfl ?_); refine goesL_ (some 81) rfl rfl Try.func24 (by kernel_rfl) rfl #[.slice Ao60 t313.length co60, .int .i64 a1_0, .int .i64 a1_1] rfl (by (try simp only [List.map_toArray, List.map_cons, List.map_nil]); first | done | rfl | (simp only [List.length_drop, List.length_take]; rfl)) ?_; (with_reducible refine (region_Cut.calls _ _ t313 a1_0 a1_1 t333 _ ?side1 ?side2 A49.out).mono ?_); (case side1 => refine (Kd.R_reads' (e := 25) (base := w.heap.size) (ok := fun k_ => (((True ∧ k_ ≠ gb311) ∧ k_ ≠ gb324) ∧ k_ ≠ gb332)) (n := t313.length) (c := co60) ?_).2.2; exact (by (with_reducible repeat (first | apply Kd.R_alloc | apply Kd.R_drewN | apply Kd.R_drew)); exact (Kd.R_mono (Kd.R_far (p := ⟨gb332, 5, none⟩) (Kd.R_far (p := ⟨gb332, 4, none⟩) (Kd.R_far (p := ⟨gb332, 3, none⟩) (Kd.R_far (p := ⟨gb332, 2, none⟩) (Kd.R_far (p := ⟨gb332, 1, none⟩) (Kd.R_far (p := ⟨gb332, 0, none⟩) (Kd.R_mono HO315.out (fun k_ hk => (⟨hk, hk.2⟩ : _ ∧ k_ ≠ gb332))) (fun _ hk => hk.2) (.int .i64 t325)) (fun _ hk => hk.2) (.int .i64 t326)) (fun _ hk => hk.2) (.int .i64 t327)) (fun _ hk => hk.2) (.int .i64 t328)) (fun _ hk => hk.2) (.int .i64 t329)) (fun _ hk => hk.2) (.bool t330)) (fun _ h_ => h_.1)))); (case side2 => exact (Kd.R_reads' HO315.out).2.1); rintro e w72 ⟨v334, rfl, ho0, hb⟩; refine ⟨_, rfl, ?_⟩; have n0_ := Aside0.mk (Kd.R_elder' (by (with_reducible repeat (first | apply Kd.R_alloc | apply Kd.R_drewN | apply Kd.R_drew)); exact (Kd.R_mono (Kd.R_far (p := ⟨gb332, 5, none⟩) (Kd.R_far (p := ⟨gb332, 4, none⟩) (Kd.R_far (p := ⟨gb332, 3, none⟩) (Kd.R_far (p := ⟨gb332, 2, none⟩) (Kd.R_far (p := ⟨gb332, 1, none⟩) (Kd.R_far (p := ⟨gb332, 0, none⟩) (Kd.R_mono HO315.out (fun k_ hk => (⟨hk, hk.2⟩ : _ ∧ k_ ≠ gb332))) (fun _ hk => hk.2) (.int .i64 t325)) (fun _ hk => hk.2) (.int .i64 t326)) (fun _ hk => hk.2) (.int .i64 t327)) (fun _ hk => hk.2) (.int .i64 t328)) (fun _ hk => hk.2) (.int .i64 t329)) (fun _ hk => hk.2) (.bool t330)) (fun _ h_ => h_.1))) (Kd.R_base ho0) hb); have n1_ := Aside0.mk (Kd.R_lower (Kd.R_newB (Kd.R_newB (Kd.R_newB (Kd.R_new' ho0 (Kd.R_lt (by (with_reducible repeat (first | apply Kd.R_alloc | apply Kd.R_drewN | apply Kd.R_drew)); exact (Kd.R_mono (Kd.R_far (p := ⟨gb332, 5, none⟩) (Kd.R_far (p := ⟨gb332, 4, none⟩) (Kd.R_far (p := ⟨gb332, 3, none⟩) (Kd.R_far (p := ⟨gb332, 2, none⟩) (Kd.R_far (p := ⟨gb332, 1, none⟩) (Kd.R_far (p := ⟨gb332, 0, none⟩) (Kd.R_mono HO315.out (fun k_ hk => (⟨hk, hk.2⟩ : _ ∧ k_ ≠ gb332))) (fun _ hk => hk.2) (.int .i64 t325)) (fun _ hk => hk.2) (.int .i64 t326)) (fun _ hk => hk.2) (.int .i64 t327)) (fun _ hk => hk.2) (.int .i64 t328)) (fun _ hk => hk.2) (.int .i64 t329)) (fun _ hk => hk.2) (.bool t330)) (fun _ h_ => h_.1))))) (g := gb311) (o := .cells #[.int .i64 a1_0, .int .i64 a1_1, .int .i64 a1_2, .int .i64 a1_3, .int .i64 a1_4, .bool a1_5] 25 (0, 0)) (by (with_reducible repeat (first | refine blk_drewN ?_ _ | refine blk_drew ?_ | refine blk_alloc ?_ _)); refine blk_far ?_ NB311_332.out _; (with_reducible repeat (first | refine blk_drewN ?_ _ | refine blk_drew ?_ | refine blk_alloc ?_ _)); refine blk_far ?_ NB311_332.out _; (with_reducible repeat (first | refine blk_drewN ?_ _ | refine blk_drew ?_ | refine blk_alloc ?_ _)); refine blk_far ?_ NB311_332.out _; (with_reducible repeat (first | refine blk_drewN ?_ _ | refine blk_drew ?_ | refine blk_alloc ?_ _)); refine blk_far ?_ NB311_332.out _; (with_reducible repeat (first | refine blk_drewN ?_ _ | refine blk_drew ?_ | refine blk_alloc ?_ _)); refine blk_far ?_ NB311_332.out _; (with_reducible repeat (first | refine blk_drewN ?_ _ | refine blk_drew ?_ | refine blk_alloc ?_ _)); refine blk_far ?_ NB311_332.out _; (with_reducible repeat (first | refine blk_drewN ?_ _ | refine blk_drew ?_ | refine blk_alloc ?_ _)); exact BK311.out)) (g := gb324) (o := .cells #[.int .i64 t317, .int .i64 t318, .int .i64 t319, .int .i64 t320, .int .i64 t321, .bool t322] 25 (0, 0)) (by (with_reducible repeat (first | refine blk_drewN ?_ _ | refine blk_drew ?_ | refine blk_alloc ?_ _)); refine blk_far ?_ NB324_332.out _; (with_reducible repeat (first | refine blk_drewN ?_ _ | refine blk_drew ?_ | refine blk_alloc ?_ _)); refine blk_far ?_ NB324_332.out _; (with_reducible repeat (first | refine blk_drewN ?_ _ | refine blk_drew ?_ | refine blk_alloc ?_ _)); refine blk_far ?_ NB324_332.out _; (with_reducible repeat (first | refine blk_drewN ?_ _ | refine blk_drew ?_ | refine blk_alloc ?_ _)); refine blk_far ?_ NB324_332.out _; (with_reducible repeat (first | refine blk_drewN ?_ _ | refine blk_drew ?_ | refine blk_alloc ?_ _)); refine blk_far ?_ NB324_332.out _; (with_reducible repeat (first | refine blk_drewN ?_ _ | refine blk_drew ?_ | refine blk_alloc ?_ _)); refine blk_far ?_ NB324_332.out _; (with_reducible repeat (first | refine blk_drewN ?_ _ | refine blk_drew ?_ | refine blk_alloc ?_ _)); exact BK324.out)) (g := gb332) (o := .cells #[.int .i64 t325, .int .i64 t326, .int .i64 t327, .int .i64 t328, .int .i64 t329, .bool t330] 25 (0, 0)) (by (with_reducible repeat (first | refine blk_drewN ?_ _ | refine blk_drew ?_ | refine blk_alloc ?_ _)); refine blk_put (cs := #[.int .i64 t325, .int .i64 t326, .int .i64 t327, .int .i64 t328, .int .i64 t329, .bool false]) ?_ 5 _ rfl; (with_reducible repeat (first | refine blk_drewN ?_ _ | refine blk_drew ?_ | refine blk_alloc ?_ _)); refine blk_put (cs := #[.int .i64 t325, .int .i64 t326, .int .i64 t327, .int .i64 t328, .int .i64 0, .bool false]) ?_ 4 _ rfl; (with_reducible repeat (first | refine blk_drewN ?_ _ | refine blk_drew ?_ | refine blk_alloc ?_ _)); refine blk_put (cs := #[.int .i64 t325, .int .i64 t326, .int .i64 t327, .int .i64 0, .int .i64 0, .bool false]) ?_ 3 _ rfl; (with_reducible repeat (first | refine blk_drewN ?_ _ | refine blk_drew ?_ | refine blk_alloc ?_ _)); refine blk_put (cs := #[.int .i64 t325, .int .i64 t326, .int .i64 0, .int .i64 0, .int .i64 0, .bool false]) ?_ 2 _ rfl; (with_reducible repeat (first | refine blk_drewN ?_ _ | refine blk_drew ?_ | refine blk_alloc ?_ _)); refine blk_put (cs := #[.int .i64 t325, .int .i64 0, .int .i64 0, .int .i64 0, .int .i64 0, .bool false]) ?_ 1 _ rfl; (with_reducible repeat (first | refine blk_drewN ?_ _ | refine blk_drew ?_ | refine blk_alloc ?_ _)); refine blk_put (cs := #[.int .i64 0, .int .i64 0, .int .i64 0, .int .i64 0, .int .i64 0, .bool false]) ?_ 0 _ rfl; (with_reducible repeat (first | refine blk_drewN ?_ _ | refine blk_drew ?_ | refine blk_alloc ?_ _)); exact BK332.out)) (below_size (by repeat (first | (with_reducible first | exact HB.out | apply below_alloc | apply pw_below_drewN | apply below_drew1 | refine below_set ?_ GE311.out | refine below_set ?_ GE324.out | refine below_set ?_ GE332.out) | exact HB.out)))); have n2_ := Aside0.mk (blk_below (g := gb311) (o := .cells #[.int .i64 a1_0, .int .i64 a1_1, .int .i64 a1_2, .int .i64 a1_3, .int .i64 a1_4, .bool a1_5] 25 (0, 0)) (by (with_reducible repeat (first | refine blk_drewN ?_ _ | refine blk_drew ?_ | refine blk_alloc ?_ _)); refine blk_far ?_ NB311_332.out _; (with_reducible repeat (first | refine blk_drewN ?_ _ | refine blk_drew ?_ | refine blk_alloc ?_ _)); refine blk_far ?_ NB311_332.out _; (with_reducible repeat (first | refine blk_drewN ?_ _ | refine blk_drew ?_ | refine blk_alloc ?_ _)); refine blk_far ?_ NB311_332.out _; (with_reducible repeat (first | refine blk_drewN ?_ _ | refine blk_drew ?_ | refine blk_alloc ?_ _)); refine blk_far ?_ NB311_332.out _; (with_reducible repeat (first | refine blk_drewN ?_ _ | refine blk_drew ?_ | refine blk_alloc ?_ _)); refine blk_far ?_ NB311_332.out _; (with_reducible repeat (first | refine blk_drewN ?_ _ | refine blk_drew ?_ | refine blk_alloc ?_ _)); refine blk_far ?_ NB311_332.out _; (with_reducible repeat (first | refine blk_drewN ?_ _ | refine blk_drew ?_ | refine blk_alloc ?_ _)); exact BK311.out) hb); have n3_ := Aside0.mk (blk_below (g := gb324) (o := .cells #[.int .i64 t317, .int .i64 t318, .int .i64 t319, .int .i64 t320, .int .i64 t321, .bool t322] 25 (0, 0)) (by (with_reducible repeat (first | refine blk_drewN ?_ _ | refine blk_drew ?_ | refine blk_alloc ?_ _)); refine blk_far ?_ NB324_332.out _; (with_reducible repeat (first | refine blk_drewN ?_ _ | refine blk_drew ?_ | refine blk_alloc ?_ _)); refine blk_far ?_ NB324_332.out _; (with_reducible repeat (first | refine blk_drewN ?_ _ | refine blk_drew ?_ | refine blk_alloc ?_ _)); refine blk_far ?_ NB324_332.out _; (with_reducible repeat (first | refine blk_drewN ?_ _ | refine blk_drew ?_ | refine blk_alloc ?_ _)); refine blk_far ?_ NB324_332.out _; (with_reducible repeat (first | refine blk_drewN ?_ _ | refine blk_drew ?_ | refine blk_alloc ?_ _)); refine blk_far ?_ NB324_332.out _; (with_reducible repeat (first | refine blk_drewN ?_ _ | refine blk_drew ?_ | refine blk_alloc ?_ _)); refine blk_far ?_ NB324_332.out _; (with_reducible repeat (first | refine blk_drewN ?_ _ | refine blk_drew ?_ | refine blk_alloc ?_ _)); exact BK324.out) hb); have n4_ := Aside0.mk (blk_below (g := gb332) (o := .cells #[.int .i64 t325, .int .i64 t326, .int .i64 t327, .int .i64 t328, .int .i64 t329, .bool t330] 25 (0, 0)) (by (with_reducible repeat (first | refine blk_drewN ?_ _ | refine blk_drew ?_ | refine blk_alloc ?_ _)); refine blk_put (cs := #[.int .i64 t325, .int .i64 t326, .int .i64 t327, .int .i64 t328, .int .i64 t329, .bool false]) ?_ 5 _ rfl; (with_reducible repeat (first | refine blk_drewN ?_ _ | refine blk_drew ?_ | refine blk_alloc ?_ _)); refine blk_put (cs := #[.int .i64 t325, .int .i64 t326, .int .i64 t327, .int .i64 t328, .int .i64 0, .bool false]) ?_ 4 _ rfl; (with_reducible repeat (first | refine blk_drewN ?_ _ | refine blk_drew ?_ | refine blk_alloc ?_ _)); refine blk_put (cs := #[.int .i64 t325, .int .i64 t326, .int .i64 t327, .int .i64 0, .int .i64 0, .bool false]) ?_ 3 _ rfl; (with_reducible repeat (first | refine blk_drewN ?_ _ | refine blk_drew ?_ | refine blk_alloc ?_ _)); refine blk_put (cs := #[.int .i64 t325, .int .i64 t326, .int .i64 0, .int .i64 0, .int .i64 0, .bool false]) ?_ 2 _ rfl; (with_reducible repeat (first | refine blk_drewN ?_ _ | refine blk_drew ?_ | refine blk_alloc ?_ _)); refine blk_put (cs := #[.int .i64 t325, .int .i64 0, .int .i64 0, .int .i64 0, .int .i64 0, .bool false]) ?_ 1 _ rfl; (with_reducible repeat (first | refine blk_drewN ?_ _ | refine blk_drew ?_ | refine blk_alloc ?_ _)); refine blk_put (cs := #[.int .i64 0, .int .i64 0, .int .i64 0, .int .i64 0, .int .i64 0, .bool false]) ?_ 0 _ rfl; (with_reducible repeat (first | refine blk_drewN ?_ _ | refine blk_drew ?_ | refine blk_alloc ?_ _)); exact BK332.out) hb); have n5_ := Aside0.mk (below_step (by repeat (first | (with_reducible first | exact HB.out | apply below_alloc | apply pw_below_drewN | apply below_drew1 | refine below_set ?_ GE311.out | refine below_set ?_ GE324.out | refine below_set ?_ GE332.out) | exact HB.out)) hb); clear HO315; clear BK311; clear BK324; clear BK332; clear HB; have HO315 := n0_; have HO335 := n1_; have BK311 := n2_; have BK324 := n3_; have BK332 := n4_; have HB := n5_; clear n0_ n1_ n2_ n3_ n4_ n5_; (try clear hb); (try clear hb2); (try clear hk); (try clear hi); (try clear ho0); obtain ⟨Ao73, co73, eo73⟩ := Kd.R_slice HO335.out; subst eo73) | ((with_reducible refine gate_callee (f := 15) rfl ?_); refine goesL_ (some 83) rfl rfl Try.func15 (by kernel_rfl) rfl #[.slice Ao73 t333.length co73, .slice A0 l0.length c0] rfl (by (try simp only [List.map_toArray, List.map_cons, List.map_nil]); first | done | rfl | (simp only [List.length_drop, List.length_take]; rfl)) ?_; (with_reducible refine (millpondref07_Same.calls k _ _ t333 _ _ l0 true _ ?side1 ?side2 ?side3 ?side4 A50.out).mono ?_); (case side1 => repeat (first | exact (Kd.R_reads' HO335.out).2.2 | (with_reducible refine Kd.C_alloc ?_ _) | (with_reducible refine Kd.C_drewN ?_ _) | (with_reducible refine Kd.C_drew ?_))); (case side2 => exact (Kd.R_reads' HO335.out).2.1); (case side3 => repeat (first | exact (Kd.C_below HR0.out HB.out) | (with_reducible refine Kd.C_alloc ?_ _) | (with_reducible refine Kd.C_drewN ?_ _) | (with_reducible refine Kd.C_drew ?_))); (case side4 => exact HC0.out); rintro e w' ⟨rfl, ⟨nd, rfl⟩⟩; refine ⟨_, rfl, ?_⟩))
                      (try (rw [drewN_self w72]; generalize hq_ : World.drewN w72 _ = w72; have n0_ : Aside0 (Kd.R k25 25 w72 w.heap.size (fun k_ => some k_ ≠ (.slice Ao73 t333.length co73 : Value).ownBlock ∧ k_ ≠ gb311 ∧ k_ ≠ gb324 ∧ k_ ≠ gb332) (.slice Ao60 t313.length co60) t313) := ⟨by rw [← hq_]; exact (by (with_reducible repeat (first | apply Kd.R_alloc | apply Kd.R_drewN | apply Kd.R_drew)); exact Kd.R_mono HO315.out (fun _ hk => ⟨hk.2, ⟨hk.1.1.1.2, ⟨hk.1.1.2, hk.1.2⟩⟩⟩))⟩; have n1_ : Aside0 (Kd.R k25 25 w72 w.heap.size (fun k_ => some k_ ≠ (.slice Ao60 t313.length co60 : Value).ownBlock ∧ k_ ≠ gb311 ∧ k_ ≠ gb324 ∧ k_ ≠ gb332) (.slice Ao73 t333.length co73) t333) := ⟨by rw [← hq_]; exact (by (with_reducible repeat (first | apply Kd.R_alloc | apply Kd.R_drewN | apply Kd.R_drew)); exact Kd.R_mono HO335.out (fun _ hk => ⟨hk.1.1.1.2, ⟨hk.1.1.2, ⟨hk.1.2, hk.2⟩⟩⟩))⟩; have n2_ : Aside0 (w72.heap[gb311]? = some (.cells #[.int .i64 a1_0, .int .i64 a1_1, .int .i64 a1_2, .int .i64 a1_3, .int .i64 a1_4, .bool a1_5] 25 (0, 0))) := ⟨by rw [← hq_]; exact (by (with_reducible repeat (first | refine blk_drewN ?_ _ | refine blk_drew ?_ | refine blk_alloc ?_ _)); exact BK311.out)⟩; have n3_ : Aside0 (w72.heap[gb324]? = some (.cells #[.int .i64 t317, .int .i64 t318, .int .i64 t319, .int .i64 t320, .int .i64 t321, .bool t322] 25 (0, 0))) := ⟨by rw [← hq_]; exact (by (with_reducible repeat (first | refine blk_drewN ?_ _ | refine blk_drew ?_ | refine blk_alloc ?_ _)); exact BK324.out)⟩; have n4_ : Aside0 (w72.heap[gb332]? = some (.cells #[.int .i64 t325, .int .i64 t326, .int .i64 t327, .int .i64 t328, .int .i64 t329, .bool t330] 25 (0, 0))) := ⟨by rw [← hq_]; exact (by (with_reducible repeat (first | refine blk_drewN ?_ _ | refine blk_drew ?_ | refine blk_alloc ?_ _)); exact BK332.out)⟩; have n5_ : Aside0 (Below w.heap.size w w72) := ⟨by rw [← hq_]; exact (by repeat (first | (with_reducible first | exact HB.out | apply below_alloc | apply pw_below_drewN | apply below_drew1 | refine below_set ?_ GE311.out | refine below_set ?_ GE324.out | refine below_set ?_ GE332.out) | exact HB.out))⟩; clear HO315 HO335 BK311 BK324 BK332 HB hq_; have HO315 := n0_; have HO335 := n1_; have BK311 := n2_; have BK324 := n3_; have BK332 := n4_; have HB := n5_; clear n0_ n1_ n2_ n3_ n4_ n5_))
                      have n0_ := Aside0.mk (Kd.R_drew HO315.out)
                      have n1_ := Aside0.mk (Kd.R_drew HO335.out)
                      have n2_ := Aside0.mk (blk_drew BK311.out)
                      have n3_ := Aside0.mk (blk_drew BK324.out)
                      have n4_ := Aside0.mk (blk_drew BK332.out)
                      have n5_ := Aside0.mk (below_drew1 HB.out)
                      clear HO315
                      clear HO335
                      clear BK311
                      clear BK324
                      clear BK332
                      clear HB
                      have HO315 := n0_
                      have HO335 := n1_
                      have BK311 := n2_
                      have BK324 := n3_
                      have BK332 := n4_
                      have HB := n5_
                      clear n0_ n1_ n2_ n3_ n4_ n5_
                      refine start_ (n := 22) (S := fun w' => w'.cell? ⟨gb311, 0, none⟩ = some (.int .i64 a1_0) ∧ w'.cell? ⟨gb311, 1, none⟩ = some (.int .i64 a1_1) ∧ w'.cell? ⟨gb311, 2, none⟩ = some (.int .i64 a1_2) ∧ w'.cell? ⟨gb311, 3, none⟩ = some (.int .i64 a1_3) ∧ w'.cell? ⟨gb311, 4, none⟩ = some (.int .i64 a1_4) ∧ w'.cell? ⟨gb311, 5, none⟩ = some (.bool a1_5)) (ds := []) #[false, false, false, false, false, false, false, false, false, false, false, false, false, false, false, false, false, false, false, false, false, false] (by kernel_rfl) rfl rfl ⟨(blk_cell BK311.out 0).trans rfl, (blk_cell BK311.out 1).trans rfl, (blk_cell BK311.out 2).trans rfl, (blk_cell BK311.out 3).trans rfl, (blk_cell BK311.out 4).trans rfl, (blk_cell BK311.out 5).trans rfl⟩ (fun hHeld => ?_); refine with_tabW millpondlaw07_RegionHas.tab17 millpondlaw07_RegionHas.bits17 (fun HT_ HW_ => ?_)
                      generalize w72.drew = w74 at HO315 HO335 BK311 BK324 BK332 HB hHeld ⊢
                      refine pure_ (i := 0) (N := some 84) (v := ?_) (a' := ?_) #[true, false, false, false, false, false, false, false, false, false, false, false, false, false, false, false, false, false, false, false, false, false] rfl rfl (any_of HT_.out (by kernel_rfl)) (fun _ _ _ h => h) (Or.inl ⟨by rfl, ?_⟩) ?_ ?_
                      rotate_left
                      · intro w'
                        go_simp
                        with_reducible rfl
                      rotate_left
                      · simp only [Act.put, List.setIfInBounds_toArray, List.set_cons_zero, List.set_cons_succ, i64_w, i32_w]
                        rfl
                      refine pure_ (i := 1) (N := some 85) (v := ?_) (a' := ?_) #[true, true, false, false, false, false, false, false, false, false, false, false, false, false, false, false, false, false, false, false, false, false] rfl rfl (any_of HT_.out (by kernel_rfl)) (fun _ _ _ h => h) (Or.inl ⟨by rfl, ?_⟩) ?_ ?_
                      rotate_left
                      · intro w'
                        go_simp
                        with_reducible rfl
                      rotate_left
                      · simp only [Act.put, List.setIfInBounds_toArray, List.set_cons_zero, List.set_cons_succ, i64_w, i32_w]
                        rfl
                      refine pure_ (i := 2) (N := some 86) (v := ?_) (a' := ?_) #[true, true, true, false, false, false, false, false, false, false, false, false, false, false, false, false, false, false, false, false, false, false] rfl rfl (any_of HT_.out (by kernel_rfl)) (fun _ _ _ h => h) (Or.inl ⟨by rfl, ?_⟩) ?_ ?_
                      rotate_left
                      · intro w'
                        go_simp
                        with_reducible rfl
                      rotate_left
                      · simp only [Act.put, List.setIfInBounds_toArray, List.set_cons_zero, List.set_cons_succ, i64_w, i32_w]
                        rfl
                      refine pure_ (i := 3) (N := some 87) (v := ?_) (a' := ?_) #[true, true, true, true, false, false, false, false, false, false, false, false, false, false, false, false, false, false, false, false, false, false] rfl rfl (any_of HT_.out (by kernel_rfl)) (fun _ _ _ h => h) (Or.inl ⟨by rfl, ?_⟩) ?_ ?_
                      rotate_left
                      · intro w'
                        go_simp
                        with_reducible rfl
                      rotate_left
                      · simp only [Act.put, List.setIfInBounds_toArray, List.set_cons_zero, List.set_cons_succ, i64_w, i32_w]
                        rfl
                      refine pure_ (i := 4) (N := some 88) (v := ?_) (a' := ?_) #[true, true, true, true, true, false, false, false, false, false, false, false, false, false, false, false, false, false, false, false, false, false] rfl rfl (any_of HT_.out (by kernel_rfl)) (fun _ _ _ h => h) (Or.inl ⟨by rfl, ?_⟩) ?_ ?_
                      rotate_left
                      · intro w'
                        go_simp
                        with_reducible rfl
                      rotate_left
                      · simp only [Act.put, List.setIfInBounds_toArray, List.set_cons_zero, List.set_cons_succ, i64_w, i32_w]
                        rfl
                      refine pure_ (i := 5) (N := some 89) (v := ?_) (a' := ?_) #[true, true, true, true, true, true, false, false, false, false, false, false, false, false, false, false, false, false, false, false, false, false] rfl rfl (any_of HT_.out (by kernel_rfl)) (fun _ _ _ h => h) (Or.inl ⟨by rfl, ?_⟩) ?_ ?_
                      rotate_left
                      · intro w'
                        go_simp
                        with_reducible rfl
                      rotate_left
                      · simp only [Act.put, List.setIfInBounds_toArray, List.set_cons_zero, List.set_cons_succ, i64_w, i32_w]
                        rfl
                      refine pure_ (i := 7) (N := some 91) (v := ?_) (a' := ?_) #[true, true, true, true, true, true, false, true, false, false, false, false, false, false, false, false, false, false, false, false, false, false] rfl rfl (any_of HT_.out (by kernel_rfl)) (fun _ _ _ h => h) (Or.inl ⟨by rfl, ?_⟩) ?_ ?_
                      rotate_left
                      · intro w'
                        go_simp
                        with_reducible rfl
                      rotate_left
                      · simp only [Act.put, List.setIfInBounds_toArray, List.set_cons_zero, List.set_cons_succ, i64_w, i32_w]
                        rfl
                      refine pure_ (i := 9) (N := some 93) (v := ?_) (a' := ?_) #[true, true, true, true, true, true, false, true, false, true, false, false, false, false, false, false, false, false, false, false, false, false] rfl rfl (any_of HT_.out (by kernel_rfl)) (fun _ _ _ h => h) (Or.inl ⟨by rfl, ?_⟩) ?_ ?_
                      rotate_left
                      · intro w'
                        go_simp
                        with_reducible rfl
                      rotate_left
                      · simp only [Act.put, List.setIfInBounds_toArray, List.set_cons_zero, List.set_cons_succ, i64_w, i32_w]
                        rfl
                      refine pure_ (i := 12) (N := some 96) (v := ?_) (a' := ?_) #[true, true, true, true, true, true, false, true, false, true, false, false, true, false, false, false, false, false, false, false, false, false] rfl rfl (any_of HT_.out (by kernel_rfl)) (fun _ _ _ h => h) (Or.inl ⟨by rfl, ?_⟩) ?_ ?_
                      rotate_left
                      · intro w'
                        go_simp
                        with_reducible rfl
                      rotate_left
                      · simp only [Act.put, List.setIfInBounds_toArray, List.set_cons_zero, List.set_cons_succ, i64_w, i32_w]
                        rfl
                      refine take_ (i := 10) (N := some 94) (v := ?_) (a' := ?_) #[true, true, true, true, true, true, false, true, false, true, true, false, true, false, false, false, false, false, false, false, false, false] rfl rfl (take_ofW HT_.out HW_.out (by kernel_rfl)) (fun _ _ _ h => h) (Or.inl ⟨by rfl, ?_⟩) hHeld ?_ ?_
                      rotate_left
                      · rintro w' ⟨s0, s1, s2, s3, s4, s5⟩
                        go_simp
                        with_reducible rfl
                      rotate_left
                      · simp only [Act.put, List.setIfInBounds_toArray, List.set_cons_zero, List.set_cons_succ, i64_w, i32_w]
                        rfl
                      refine take_ (i := 13) (N := some 97) (v := ?_) (a' := ?_) #[true, true, true, true, true, true, false, true, false, true, true, false, true, true, false, false, false, false, false, false, false, false] rfl rfl (take_ofW HT_.out HW_.out (by kernel_rfl)) (fun _ _ _ h => h) (Or.inl ⟨by rfl, ?_⟩) hHeld ?_ ?_
                      rotate_left
                      · rintro w' ⟨s0, s1, s2, s3, s4, s5⟩
                        go_simp
                        with_reducible rfl
                      rotate_left
                      · simp only [Act.put, List.setIfInBounds_toArray, List.set_cons_zero, List.set_cons_succ, i64_w, i32_w]
                        rfl
                      refine one_ (i := 6) (N := some 90) #[true, true, true, true, true, true, true, true, false, true, true, false, true, true, false, false, false, false, false, false, false, false] rfl rfl (one_of HT_.out (by kernel_rfl)) (by decide) (fun K hK => ?_)
                      refine goes_ Try.func20 (by kernel_rfl) rfl #[.slice Ao60 t313.length co60] (by rfl) rfl rfl (by (try simp only [List.map_toArray, List.map_cons, List.map_nil]); first | done | rfl | (simp only [List.length_drop, List.length_take]; rfl)) ?_
                      with_reducible refine (region_Pages.calls k _ _ t313 t337 _ ?side1 ?side2 A52.out).mono ?_
                      (case side1 => repeat (first | exact (Kd.R_reads' HO315.out).2.2 | (with_reducible refine Kd.C_alloc ?_ _) | (with_reducible refine Kd.C_drewN ?_ _) | (with_reducible refine Kd.C_drew ?_)))
                      (case side2 => exact (Kd.R_reads' HO315.out).2.1)
                      rintro e w75 ⟨rfl, hb⟩
                      refine ⟨_, rfl, ?_⟩
                      have n0_ := Aside0.mk (Kd.R_below (by (with_reducible repeat (first | apply Kd.R_alloc | apply Kd.R_drewN | apply Kd.R_drew)); exact HO315.out) hb)
                      have n1_ := Aside0.mk (Kd.R_below (by (with_reducible repeat (first | apply Kd.R_alloc | apply Kd.R_drewN | apply Kd.R_drew)); exact HO335.out) hb)
                      have n2_ := Aside0.mk (blk_below (g := gb311) (o := .cells #[.int .i64 a1_0, .int .i64 a1_1, .int .i64 a1_2, .int .i64 a1_3, .int .i64 a1_4, .bool a1_5] 25 (0, 0)) (by (with_reducible repeat (first | refine blk_drewN ?_ _ | refine blk_drew ?_ | refine blk_alloc ?_ _)); exact BK311.out) hb)
                      have n3_ := Aside0.mk (blk_below (g := gb324) (o := .cells #[.int .i64 t317, .int .i64 t318, .int .i64 t319, .int .i64 t320, .int .i64 t321, .bool t322] 25 (0, 0)) (by (with_reducible repeat (first | refine blk_drewN ?_ _ | refine blk_drew ?_ | refine blk_alloc ?_ _)); exact BK324.out) hb)
                      have n4_ := Aside0.mk (blk_below (g := gb332) (o := .cells #[.int .i64 t325, .int .i64 t326, .int .i64 t327, .int .i64 t328, .int .i64 t329, .bool t330] 25 (0, 0)) (by (with_reducible repeat (first | refine blk_drewN ?_ _ | refine blk_drew ?_ | refine blk_alloc ?_ _)); exact BK332.out) hb)
                      have n5_ := Aside0.mk (below_step (by repeat (first | (with_reducible first | exact HB.out | apply below_alloc | apply pw_below_drewN | apply below_drew1 | refine below_set ?_ GE311.out | refine below_set ?_ GE324.out | refine below_set ?_ GE332.out) | exact HB.out)) hb)
                      clear HO315
                      clear HO335
                      clear BK311
                      clear BK324
                      clear BK332
                      clear HB
                      have HO315 := n0_
                      have HO335 := n1_
                      have BK311 := n2_
                      have BK324 := n3_
                      have BK332 := n4_
                      have HB := n5_
                      clear n0_ n1_ n2_ n3_ n4_ n5_
                      (try clear hb)
                      (try clear hb2)
                      (try clear hk)
                      (try clear hi)
                      refine hK.out _ _ ⟨(blk_cell BK311.out 0).trans rfl, (blk_cell BK311.out 1).trans rfl, (blk_cell BK311.out 2).trans rfl, (blk_cell BK311.out 3).trans rfl, (blk_cell BK311.out 4).trans rfl, (blk_cell BK311.out 5).trans rfl⟩ (fun hHeld => ?_)
                      clear hK K
                      refine norm_ (a' := ?_) ?_ ?_
                      rotate_left
                      · show Act.put _ (some 90) _ = _
                        simp only [Act.put, List.setIfInBounds_toArray, List.set_cons_zero, List.set_cons_succ, i64_w, i32_w]
                        rfl
                      refine one_ (i := 8) (N := some 92) #[true, true, true, true, true, true, true, true, true, true, true, false, true, true, false, false, false, false, false, false, false, false] rfl rfl (one_of HT_.out (by kernel_rfl)) (by decide) (fun K hK => ?_)
                      refine goes_ Try.func20 (by kernel_rfl) rfl #[.slice A0 l0.length c0] (by rfl) rfl rfl (by (try simp only [List.map_toArray, List.map_cons, List.map_nil]); first | done | rfl | (simp only [List.length_drop, List.length_take]; rfl)) ?_
                      with_reducible refine (region_Pages.calls k _ _ l0 t338 _ ?side1 ?side2 A53.out).mono ?_
                      (case side1 => repeat (first | exact (Kd.C_below HR0.out HB.out) | (with_reducible refine Kd.C_alloc ?_ _) | (with_reducible refine Kd.C_drewN ?_ _) | (with_reducible refine Kd.C_drew ?_)))
                      (case side2 => exact HC0.out)
                      rintro e w76 ⟨rfl, hb⟩
                      refine ⟨_, rfl, ?_⟩
                      have n0_ := Aside0.mk (Kd.R_below (by (with_reducible repeat (first | apply Kd.R_alloc | apply Kd.R_drewN | apply Kd.R_drew)); exact HO315.out) hb)
                      have n1_ := Aside0.mk (Kd.R_below (by (with_reducible repeat (first | apply Kd.R_alloc | apply Kd.R_drewN | apply Kd.R_drew)); exact HO335.out) hb)
                      have n2_ := Aside0.mk (blk_below (g := gb311) (o := .cells #[.int .i64 a1_0, .int .i64 a1_1, .int .i64 a1_2, .int .i64 a1_3, .int .i64 a1_4, .bool a1_5] 25 (0, 0)) (by (with_reducible repeat (first | refine blk_drewN ?_ _ | refine blk_drew ?_ | refine blk_alloc ?_ _)); exact BK311.out) hb)
                      have n3_ := Aside0.mk (blk_below (g := gb324) (o := .cells #[.int .i64 t317, .int .i64 t318, .int .i64 t319, .int .i64 t320, .int .i64 t321, .bool t322] 25 (0, 0)) (by (with_reducible repeat (first | refine blk_drewN ?_ _ | refine blk_drew ?_ | refine blk_alloc ?_ _)); exact BK324.out) hb)
                      have n4_ := Aside0.mk (blk_below (g := gb332) (o := .cells #[.int .i64 t325, .int .i64 t326, .int .i64 t327, .int .i64 t328, .int .i64 t329, .bool t330] 25 (0, 0)) (by (with_reducible repeat (first | refine blk_drewN ?_ _ | refine blk_drew ?_ | refine blk_alloc ?_ _)); exact BK332.out) hb)
                      have n5_ := Aside0.mk (below_step (by repeat (first | (with_reducible first | exact HB.out | apply below_alloc | apply pw_below_drewN | apply below_drew1 | refine below_set ?_ GE311.out | refine below_set ?_ GE324.out | refine below_set ?_ GE332.out) | exact HB.out)) hb)
                      clear HO315
                      clear HO335
                      clear BK311
                      clear BK324
                      clear BK332
                      clear HB
                      have HO315 := n0_
                      have HO335 := n1_
                      have BK311 := n2_
                      have BK324 := n3_
                      have BK332 := n4_
                      have HB := n5_
                      clear n0_ n1_ n2_ n3_ n4_ n5_
                      (try clear hb)
                      (try clear hb2)
                      (try clear hk)
                      (try clear hi)
                      refine hK.out _ _ ⟨(blk_cell BK311.out 0).trans rfl, (blk_cell BK311.out 1).trans rfl, (blk_cell BK311.out 2).trans rfl, (blk_cell BK311.out 3).trans rfl, (blk_cell BK311.out 4).trans rfl, (blk_cell BK311.out 5).trans rfl⟩ (fun hHeld => ?_)
                      clear hK K
                      refine norm_ (a' := ?_) ?_ ?_
                      rotate_left
                      · show Act.put _ (some 92) _ = _
                        simp only [Act.put, List.setIfInBounds_toArray, List.set_cons_zero, List.set_cons_succ, i64_w, i32_w]
                        rfl
                      refine pure_ (i := 11) (N := some 95) (v := ?_) (a' := ?_) #[true, true, true, true, true, true, true, true, true, true, true, true, true, true, false, false, false, false, false, false, false, false] rfl rfl (any_of HT_.out (by kernel_rfl)) (fun _ _ _ h => h) (Or.inl ⟨by rfl, ?_⟩) ?_ ?_
                      rotate_left
                      · intro w'
                        go_simp
                        with_reducible rfl
                      rotate_left
                      · simp only [Act.put, List.setIfInBounds_toArray, List.set_cons_zero, List.set_cons_succ, i64_w, i32_w]
                        rfl
                      refine pure_ (i := 14) (N := some 98) (v := ?_) (a' := ?_) #[true, true, true, true, true, true, true, true, true, true, true, true, true, true, true, false, false, false, false, false, false, false] rfl rfl (any_of HT_.out (by kernel_rfl)) (fun _ _ _ h => h) (Or.inl ⟨by rfl, ?_⟩) ?_ ?_
                      rotate_left
                      · intro w'
                        go_simp
                        with_reducible rfl
                      rotate_left
                      · simp only [Act.put, List.setIfInBounds_toArray, List.set_cons_zero, List.set_cons_succ, i64_w, i32_w]
                        rfl
                      refine pure_ (i := 15) (N := some 99) (v := ?_) (a' := ?_) #[true, true, true, true, true, true, true, true, true, true, true, true, true, true, true, true, false, false, false, false, false, false] rfl rfl (any_of HT_.out (by kernel_rfl)) (fun _ _ _ h => h) (Or.inl ⟨by rfl, ?_⟩) ?_ ?_
                      rotate_left
                      · intro w'
                        go_simp
                        with_reducible rfl
                      rotate_left
                      · simp only [Act.put, List.setIfInBounds_toArray, List.set_cons_zero, List.set_cons_succ, i64_w, i32_w]
                        rfl
                      refine pure_ (i := 16) (N := some 100) (v := ?_) (a' := ?_) #[true, true, true, true, true, true, true, true, true, true, true, true, true, true, true, true, true, false, false, false, false, false] rfl rfl (any_of HT_.out (by kernel_rfl)) (fun _ _ _ h => h) (Or.inl ⟨by rfl, ?_⟩) ?_ ?_
                      rotate_left
                      · intro w'
                        go_simp
                        with_reducible rfl
                      rotate_left
                      · simp only [Act.put, List.setIfInBounds_toArray, List.set_cons_zero, List.set_cons_succ, i64_w, i32_w]
                        rfl
                      refine pure_ (i := 17) (N := some 101) (v := ?_) (a' := ?_) #[true, true, true, true, true, true, true, true, true, true, true, true, true, true, true, true, true, true, false, false, false, false] rfl rfl (any_of HT_.out (by kernel_rfl)) (fun _ _ _ h => h) (Or.inl ⟨by rfl, ?_⟩) ?_ ?_
                      rotate_left
                      · intro w'
                        go_simp
                        with_reducible rfl
                      rotate_left
                      · simp only [Act.put, List.setIfInBounds_toArray, List.set_cons_zero, List.set_cons_succ, i64_w, i32_w]
                        rfl
                      refine pure_ (i := 18) (N := some 102) (v := ?_) (a' := ?_) #[true, true, true, true, true, true, true, true, true, true, true, true, true, true, true, true, true, true, true, false, false, false] rfl rfl (any_of HT_.out (by kernel_rfl)) (fun _ _ _ h => h) (Or.inl ⟨by rfl, ?_⟩) ?_ ?_
                      rotate_left
                      · intro w'
                        go_simp
                        with_reducible rfl
                      rotate_left
                      · simp only [Act.put, List.setIfInBounds_toArray, List.set_cons_zero, List.set_cons_succ, i64_w, i32_w]
                        rfl
                      refine one_ (i := 19) (N := some 103) #[true, true, true, true, true, true, true, true, true, true, true, true, true, true, true, true, true, true, true, true, false, false] rfl rfl (one_of HT_.out (by kernel_rfl)) (by decide) (fun K hK => ?_)
                      refine goes_ Try.func19 (by kernel_rfl) rfl #[.slice Ao60 t313.length co60] (by rfl) rfl rfl (by (try simp only [List.map_toArray, List.map_cons, List.map_nil]); first | done | rfl | (simp only [List.length_drop, List.length_take]; rfl)) ?_
                      with_reducible refine (region_Right.calls k _ _ t313 t339 _ ?side1 ?side2 A55.out).mono ?_
                      (case side1 => repeat (first | exact (Kd.R_reads' HO315.out).2.2 | (with_reducible refine Kd.C_alloc ?_ _) | (with_reducible refine Kd.C_drewN ?_ _) | (with_reducible refine Kd.C_drew ?_)))
                      (case side2 => exact (Kd.R_reads' HO315.out).2.1)
                      rintro e w77 ⟨rfl, hb⟩
                      refine ⟨_, rfl, ?_⟩
                      have n0_ := Aside0.mk (Kd.R_below (by (with_reducible repeat (first | apply Kd.R_alloc | apply Kd.R_drewN | apply Kd.R_drew)); exact HO315.out) hb)
                      have n1_ := Aside0.mk (Kd.R_below (by (with_reducible repeat (first | apply Kd.R_alloc | apply Kd.R_drewN | apply Kd.R_drew)); exact HO335.out) hb)
                      have n2_ := Aside0.mk (blk_below (g := gb311) (o := .cells #[.int .i64 a1_0, .int .i64 a1_1, .int .i64 a1_2, .int .i64 a1_3, .int .i64 a1_4, .bool a1_5] 25 (0, 0)) (by (with_reducible repeat (first | refine blk_drewN ?_ _ | refine blk_drew ?_ | refine blk_alloc ?_ _)); exact BK311.out) hb)
                      have n3_ := Aside0.mk (blk_below (g := gb324) (o := .cells #[.int .i64 t317, .int .i64 t318, .int .i64 t319, .int .i64 t320, .int .i64 t321, .bool t322] 25 (0, 0)) (by (with_reducible repeat (first | refine blk_drewN ?_ _ | refine blk_drew ?_ | refine blk_alloc ?_ _)); exact BK324.out) hb)
                      have n4_ := Aside0.mk (blk_below (g := gb332) (o := .cells #[.int .i64 t325, .int .i64 t326, .int .i64 t327, .int .i64 t328, .int .i64 t329, .bool t330] 25 (0, 0)) (by (with_reducible repeat (first | refine blk_drewN ?_ _ | refine blk_drew ?_ | refine blk_alloc ?_ _)); exact BK332.out) hb)
                      have n5_ := Aside0.mk (below_step (by repeat (first | (with_reducible first | exact HB.out | apply below_alloc | apply pw_below_drewN | apply below_drew1 | refine below_set ?_ GE311.out | refine below_set ?_ GE324.out | refine below_set ?_ GE332.out) | exact HB.out)) hb)
                      clear HO315
                      clear HO335
                      clear BK311
                      clear BK324
                      clear BK332
                      clear HB
                      have HO315 := n0_
                      have HO335 := n1_
                      have BK311 := n2_
                      have BK324 := n3_
                      have BK332 := n4_
                      have HB := n5_
                      clear n0_ n1_ n2_ n3_ n4_ n5_
                      (try clear hb)
                      (try clear hb2)
                      (try clear hk)
                      (try clear hi)
                      refine hK.out _ _ ⟨(blk_cell BK311.out 0).trans rfl, (blk_cell BK311.out 1).trans rfl, (blk_cell BK311.out 2).trans rfl, (blk_cell BK311.out 3).trans rfl, (blk_cell BK311.out 4).trans rfl, (blk_cell BK311.out 5).trans rfl⟩ (fun hHeld => ?_)
                      clear hK K
                      refine norm_ (a' := ?_) ?_ ?_
                      rotate_left
                      · show Act.put _ (some 103) _ = _
                        simp only [Act.put, List.setIfInBounds_toArray, List.set_cons_zero, List.set_cons_succ, i64_w, i32_w]
                        rfl
                      refine pure_ (i := 20) (N := some 104) (v := ?_) (a' := ?_) #[true, true, true, true, true, true, true, true, true, true, true, true, true, true, true, true, true, true, true, true, true, false] rfl rfl (any_of HT_.out (by kernel_rfl)) (fun _ _ _ h => h) (Or.inl ⟨by rfl, ?_⟩) ?_ ?_
                      rotate_left
                      · intro w'
                        go_simp
                        with_reducible rfl
                      rotate_left
                      · simp only [Act.put, List.setIfInBounds_toArray, List.set_cons_zero, List.set_cons_succ, i64_w, i32_w]
                        rfl
                      refine pure_ (i := 21) (N := some 6) (v := ?_) (a' := ?_) #[true, true, true, true, true, true, true, true, true, true, true, true, true, true, true, true, true, true, true, true, true, true] rfl rfl (any_of HT_.out (by kernel_rfl)) (fun _ _ _ h => h) (Or.inl ⟨by rfl, ?_⟩) ?_ ?_
                      rotate_left
                      · intro w'
                        go_simp
                        with_reducible rfl
                      rotate_left
                      · simp only [Act.put, List.setIfInBounds_toArray, List.set_cons_zero, List.set_cons_succ, i64_w, i32_w]
                        rfl
                      refine done_ (done_of HT_.out (by kernel_rfl)) ?_
                      try go_wp2
                      go_ret
                      exact ⟨by first | rfl | (simp [errW_none, errW_some] <;> rfl) | (simp [*, errW_none, errW_some] <;> rfl), by repeat (first | (with_reducible first | exact HB.out | apply below_alloc | apply pw_below_drewN | apply below_drew1 | refine below_set ?_ GE311.out | refine below_set ?_ GE324.out | refine below_set ?_ GE332.out) | exact HB.out)⟩
                    · rw [if_neg c54] at H
                      have c54b0 : (t337 == (wrap64 ((wrap64 (t338 + a1_1)) - a1_0))) = false := beq_eq_false_iff_ne.mpr c54
                      have c54b1 : (t337 != (wrap64 ((wrap64 (t338 + a1_1)) - a1_0))) = true := bne_iff_ne.mpr c54
                      exact absurd ((Option.some.inj H).trans hrT.out) (by decide)
                  · replace c51 := Bool.eq_false_iff.mpr c51
                    subst c51
                    have H1 : (some false) = some r := by rw [if_neg (show ¬ (false = true) by decide)] at H; exact H
                    clear H
                    have H := H1
                    clear H1
                    exact absurd ((Option.some.inj H).trans hrT.out) (by decide)
            · replace c15 := Bool.eq_false_iff.mpr c15
              subst c15
              have H1 : (some false) = some r := by rw [if_neg (show ¬ (false = true) by decide)] at H; exact H
              clear H
              have H := H1
              clear H1
              exact absurd ((Option.some.inj H).trans hrT.out) (by decide)
          · rw [if_neg c14] at H
            have c14b0 : decide (a2 < a1_1) = false := decide_eq_false c14
            clear c14
            by_cases c133 : (t323 != t331) = true
            · rw [if_pos c133] at H
              have c133b0 : (t323 != t331) = true := c133
              (try (have c133b1 : decide (t323 = t331) = false := by simpa using c133))
              (try (have c133b2 : (t323 == t331) = false := by simpa using c133))
              (try (have c133b3 : ¬ (t323 = t331) := by simpa using c133))
              clear c133
              exact absurd ((Option.some.inj H).trans hrT.out) (by decide)
            · rw [if_neg c133] at H
              have c133b0 : (t323 != t331) = false := by simpa using c133
              (try (have c133b1 : decide (t323 = t331) = true := by simpa using c133))
              (try (have c133b2 : (t323 == t331) = true := by simpa using c133))
              clear c133
              by_cases c149 : (!(t317 == t325) || (!(t318 == t326) || (!(t319 == t327) || (!(t320 == t328) || (!(t321 == t329) || (!(t322 == t330))))))) = true
              · rw [if_pos c149] at H
                have c149b0 : (!(t317 == t325) || (!(t318 == t326) || (!(t319 == t327) || (!(t320 == t328) || (!(t321 == t329) || (!(t322 == t330))))))) = true := c149
                clear c149
                exact absurd ((Option.some.inj H).trans hrT.out) (by decide)
              · rw [if_neg c149] at H
                have c149b0 : (!(t317 == t325) || (!(t318 == t326) || (!(t319 == t327) || (!(t320 == t328) || (!(t321 == t329) || (!(t322 == t330))))))) = false := by simpa using c149
                clear c149
                replace H := Option.bind_eq_some_iff.mp H
                obtain ⟨t340, A1660, H⟩ := H
                replace H : ((millpondref07_Same.f k t340 l0).bind fun t343 => (if t343 = true then ((region_Pages.f k t313).bind fun t344 => ((region_Pages.f k l0).bind fun t345 => (if t344 = (wrap64 ((wrap64 (t345 + a1_1)) - a1_0)) then ((region_Right.f k t313).bind fun t346 => (some t346)) else (some false)))) else (some false))) = some r := H
                have A166 := Aside0.mk A1660
                clear A1660
                replace H := Option.bind_eq_some_iff.mp H
                obtain ⟨t343, A1670, H⟩ := H
                replace H : (if t343 = true then ((region_Pages.f k t313).bind fun t344 => ((region_Pages.f k l0).bind fun t345 => (if t344 = (wrap64 ((wrap64 (t345 + a1_1)) - a1_0)) then ((region_Right.f k t313).bind fun t346 => (some t346)) else (some false)))) else (some false)) = some r := H
                have A167 := Aside0.mk A1670
                clear A1670
                by_cases c168 : t343 = true
                · subst c168
                  have H1 : ((region_Pages.f k t313).bind fun t344 => ((region_Pages.f k l0).bind fun t345 => (if t344 = (wrap64 ((wrap64 (t345 + a1_1)) - a1_0)) then ((region_Right.f k t313).bind fun t346 => (some t346)) else (some false)))) = some r := by rw [if_pos rfl] at H; exact H
                  clear H
                  have H := H1
                  clear H1
                  replace H := Option.bind_eq_some_iff.mp H
                  obtain ⟨t344, A1690, H⟩ := H
                  replace H : ((region_Pages.f k l0).bind fun t345 => (if t344 = (wrap64 ((wrap64 (t345 + a1_1)) - a1_0)) then ((region_Right.f k t313).bind fun t346 => (some t346)) else (some false))) = some r := H
                  have A169 := Aside0.mk A1690
                  clear A1690
                  replace H := Option.bind_eq_some_iff.mp H
                  obtain ⟨t345, A1700, H⟩ := H
                  replace H : (if t344 = (wrap64 ((wrap64 (t345 + a1_1)) - a1_0)) then ((region_Right.f k t313).bind fun t346 => (some t346)) else (some false)) = some r := H
                  have A170 := Aside0.mk A1700
                  clear A1700
                  by_cases c171 : t344 = (wrap64 ((wrap64 (t345 + a1_1)) - a1_0))
                  · rw [if_pos c171] at H
                    have c171b0 : (t344 == (wrap64 ((wrap64 (t345 + a1_1)) - a1_0))) = true := beq_iff_eq.mpr c171
                    have c171b1 : (t344 != (wrap64 ((wrap64 (t345 + a1_1)) - a1_0))) = false := bne_eq_false_iff_eq.mpr c171
                    clear c171
                    replace H := Option.bind_eq_some_iff.mp H
                    obtain ⟨t346, A1720, H⟩ := H
                    replace H : (some t346) = some r := H
                    have A172 := Aside0.mk A1720
                    clear A1720
                    obtain rfl := Option.some.inj H
                    go_enter Try.func6, Try.ntmps6
                    try go_wp2_with (first | ((with_reducible refine gate_dst (N := 4) rfl ?_); (try (refine gate_guard (by rfl) ?_; dsimp only)); refine box_event ?hg (N := 4) ?hd (cs := #[.int .i64 a1_0, .int .i64 a1_1, .int .i64 a1_2, .int .i64 a1_3, .int .i64 a1_4, .bool a1_5]) (t := 25) ?hr ?_; (case hd => rfl); (case hg => rfl); (case hr => first | (go_simp; done) | (go_simp; rfl)); intro gb311 hg w173 hbox hb; have n0_ := Aside0.mk (below_step (by repeat (first | (with_reducible first | exact HB.out | apply below_alloc | apply pw_below_drewN | apply below_drew1) | exact HB.out)) hb); have n1_ := Aside0.mk (hbox); have n2_ := Aside0.mk ((by rw [hg]; exact (below_size (by repeat (first | (with_reducible first | exact HB.out | apply below_alloc | apply pw_below_drewN | apply below_drew1) | exact HB.out))) : w.heap.size ≤ gb311)); have n3_ := Aside0.mk ((by rw [hg]; exact (below_size (by repeat (first | (with_reducible first | exact HB.out | apply below_alloc | apply pw_below_drewN | apply below_drew1) | exact HB.out))) : w.heap.size ≤ gb311)); clear HB; have HB := n0_; have BK311 := n1_; have GW311 := n2_; have GE311 := n3_; clear n0_ n1_ n2_ n3_; clear hb hbox hg) | ((with_reducible refine gate_callee (f := 10) rfl ?_); refine goesL_ (some 15) rfl rfl Try.func10 (by kernel_rfl) rfl #[] rfl (by (try simp only [List.map_toArray, List.map_cons, List.map_nil]); first | done | rfl | (simp only [List.length_drop, List.length_take]; rfl)) ?_; (with_reducible refine (millpondlaw07_works.calls k  true _ A4.out).mono ?_); rintro e w174 ⟨rfl, hb⟩; refine ⟨_, rfl, ?_⟩; have n0_ := Aside0.mk (blk_below (g := gb311) (o := .cells #[.int .i64 a1_0, .int .i64 a1_1, .int .i64 a1_2, .int .i64 a1_3, .int .i64 a1_4, .bool a1_5] 25 (0, 0)) (by (with_reducible repeat (first | refine blk_drewN ?_ _ | refine blk_drew ?_ | refine blk_alloc ?_ _)); exact BK311.out) hb); have n1_ := Aside0.mk (below_step (by repeat (first | (with_reducible first | exact HB.out | apply below_alloc | apply pw_below_drewN | apply below_drew1 | refine below_set ?_ GE311.out) | exact HB.out)) hb); clear BK311; clear HB; have BK311 := n0_; have HB := n1_; clear n0_ n1_; (try clear hb); (try clear hb2); (try clear hk); (try clear hi); have hcz175_0 : w174.cell? ⟨gb311, 0, none⟩ = some (.int .i64 a1_0) := (blk_cell BK311.out 0).trans rfl; have hcz175_1 : w174.cell? ⟨gb311, 1, none⟩ = some (.int .i64 a1_1) := (blk_cell BK311.out 1).trans rfl; have hcz175_2 : w174.cell? ⟨gb311, 2, none⟩ = some (.int .i64 a1_2) := (blk_cell BK311.out 2).trans rfl; have hcz175_3 : w174.cell? ⟨gb311, 3, none⟩ = some (.int .i64 a1_3) := (blk_cell BK311.out 3).trans rfl; have hcz175_4 : w174.cell? ⟨gb311, 4, none⟩ = some (.int .i64 a1_4) := (blk_cell BK311.out 4).trans rfl; have hcz175_5 : w174.cell? ⟨gb311, 5, none⟩ = some (.bool a1_5) := (blk_cell BK311.out 5).trans rfl; have hfz175_0 := blk_frozen BK311.out 0; have hfz175_1 := blk_frozen BK311.out 1; have hfz175_2 := blk_frozen BK311.out 2; have hfz175_3 := blk_frozen BK311.out 3; have hfz175_4 := blk_frozen BK311.out 4; have hfz175_5 := blk_frozen BK311.out 5) | ((with_reducible refine gate_callee (f := 11) rfl ?_); refine goesL_ (some 25) rfl rfl Try.func11 (by kernel_rfl) rfl #[.slice A0 l0.length c0, .agg #[.int .i64 a1_0, .int .i64 a1_1, .int .i64 a1_2, .int .i64 a1_3, .int .i64 a1_4, .bool a1_5]] rfl (by (try simp only [List.map_toArray, List.map_cons, List.map_nil]); first | done | rfl | (simp only [List.length_drop, List.length_take]; rfl)) ?_; (with_reducible refine (region_Add.calls _ _ l0 a1_0 a1_1 a1_2 a1_3 a1_4 a1_5 t313 t316 _ ?side1 ?side2 A9.out).mono ?_); (case side1 => repeat (first | exact (Kd.C_below HR0.out HB.out) | (with_reducible refine Kd.C_alloc ?_ _) | (with_reducible refine Kd.C_drewN ?_ _) | (with_reducible refine Kd.C_drew ?_))); (case side2 => exact HC0.out); rintro e w176 ⟨v314, rfl, ho0, hb⟩; refine ⟨_, rfl, ?_⟩; have n0_ := Aside0.mk (Kd.R_lower (Kd.R_newB ho0 (g := gb311) (o := .cells #[.int .i64 a1_0, .int .i64 a1_1, .int .i64 a1_2, .int .i64 a1_3, .int .i64 a1_4, .bool a1_5] 25 (0, 0)) (by (with_reducible repeat (first | refine blk_drewN ?_ _ | refine blk_drew ?_ | refine blk_alloc ?_ _)); exact BK311.out)) (below_size (by repeat (first | (with_reducible first | exact HB.out | apply below_alloc | apply pw_below_drewN | apply below_drew1 | refine below_set ?_ GE311.out) | exact HB.out)))); have n1_ := Aside0.mk (blk_below (g := gb311) (o := .cells #[.int .i64 a1_0, .int .i64 a1_1, .int .i64 a1_2, .int .i64 a1_3, .int .i64 a1_4, .bool a1_5] 25 (0, 0)) (by (with_reducible repeat (first | refine blk_drewN ?_ _ | refine blk_drew ?_ | refine blk_alloc ?_ _)); exact BK311.out) hb); have n2_ := Aside0.mk (below_step (by repeat (first | (with_reducible first | exact HB.out | apply below_alloc | apply pw_below_drewN | apply below_drew1 | refine below_set ?_ GE311.out) | exact HB.out)) hb); clear BK311; clear HB; have HO315 := n0_; have BK311 := n1_; have HB := n2_; clear n0_ n1_ n2_; (try clear hb); (try clear hb2); (try clear hk); (try clear hi); (try clear ho0); obtain ⟨Ao177, co177, eo177⟩ := Kd.R_slice HO315.out; subst eo177) | ((with_reducible refine gate_callee (f := 13) rfl ?_); refine goesL_ (some 39) rfl rfl Try.func13 (by kernel_rfl) rfl #[.slice Ao177 t313.length co177, .int .i64 a2] rfl (by (try simp only [List.map_toArray, List.map_cons, List.map_nil]); first | done | rfl | (simp only [List.length_drop, List.length_take]; rfl)) ?_; (with_reducible refine (region_Find.calls _ _ t313 a2 t317 t318 t319 t320 t321 t322 t323 _ ?side1 ?side2 A11.out).mono ?_); (case side1 => repeat (first | exact (Kd.R_reads' HO315.out).2.2 | (with_reducible refine Kd.C_alloc ?_ _) | (with_reducible refine Kd.C_drewN ?_ _) | (with_reducible refine Kd.C_drew ?_))); (case side2 => exact (Kd.R_reads' HO315.out).2.1); rintro e w178 ⟨rfl, hb⟩; refine ⟨_, rfl, ?_⟩; have n0_ := Aside0.mk (Kd.R_below (by (with_reducible repeat (first | apply Kd.R_alloc | apply Kd.R_drewN | apply Kd.R_drew)); exact HO315.out) hb); have n1_ := Aside0.mk (blk_below (g := gb311) (o := .cells #[.int .i64 a1_0, .int .i64 a1_1, .int .i64 a1_2, .int .i64 a1_3, .int .i64 a1_4, .bool a1_5] 25 (0, 0)) (by (with_reducible repeat (first | refine blk_drewN ?_ _ | refine blk_drew ?_ | refine blk_alloc ?_ _)); exact BK311.out) hb); have n2_ := Aside0.mk (below_step (by repeat (first | (with_reducible first | exact HB.out | apply below_alloc | apply pw_below_drewN | apply below_drew1 | refine below_set ?_ GE311.out) | exact HB.out)) hb); clear HO315; clear BK311; clear HB; have HO315 := n0_; have BK311 := n1_; have HB := n2_; clear n0_ n1_ n2_; (try clear hb); (try clear hb2); (try clear hk); (try clear hi)) | ((with_reducible refine gate_dst (N := 10) rfl ?_); (try (refine gate_guard (by rfl) ?_; dsimp only)); refine box_event ?hg (N := 10) ?hd (cs := #[.int .i64 0, .int .i64 0, .int .i64 0, .int .i64 0, .int .i64 0, .bool false]) (t := 25) ?hr ?_; (case hd => rfl); (case hg => rfl); (case hr => first | (go_simp; done) | (go_simp; rfl)); intro gb324 hg w179 hbox hb; have n0_ := Aside0.mk (Kd.R_below (Kd.R_elderB (by (with_reducible repeat (first | apply Kd.R_alloc | apply Kd.R_drewN | apply Kd.R_drew)); exact HO315.out) gb324 (Nat.le_of_eq hg.symm)) hb); have n1_ := Aside0.mk (blk_below (g := gb311) (o := .cells #[.int .i64 a1_0, .int .i64 a1_1, .int .i64 a1_2, .int .i64 a1_3, .int .i64 a1_4, .bool a1_5] 25 (0, 0)) (by (with_reducible repeat (first | refine blk_drewN ?_ _ | refine blk_drew ?_ | refine blk_alloc ?_ _)); exact BK311.out) hb); have n2_ := Aside0.mk (below_step (by repeat (first | (with_reducible first | exact HB.out | apply below_alloc | apply pw_below_drewN | apply below_drew1 | refine below_set ?_ GE311.out) | exact HB.out)) hb); have n3_ := Aside0.mk (hbox); have n4_ := Aside0.mk ((by rw [hg]; exact (below_size (by repeat (first | (with_reducible first | exact HB.out | apply below_alloc | apply pw_below_drewN | apply below_drew1 | refine below_set ?_ GE311.out) | exact HB.out))) : w.heap.size ≤ gb324)); have n5_ := Aside0.mk ((by rw [hg]; exact (below_size (by repeat (first | (with_reducible first | exact HB.out | apply below_alloc | apply pw_below_drewN | apply below_drew1 | refine below_set ?_ GE311.out) | exact HB.out))) : w.heap.size ≤ gb324)); have n6_ := Aside0.mk ((by rw [hg]; exact Nat.ne_of_lt (blk_lt (g := gb311) (o := .cells #[.int .i64 a1_0, .int .i64 a1_1, .int .i64 a1_2, .int .i64 a1_3, .int .i64 a1_4, .bool a1_5] 25 (0, 0)) (by (with_reducible repeat (first | refine blk_drewN ?_ _ | refine blk_drew ?_ | refine blk_alloc ?_ _)); exact BK311.out)) : gb311 ≠ gb324)); have n7_ := Aside0.mk ((by rw [hg]; exact Nat.ne_of_gt (blk_lt (g := gb311) (o := .cells #[.int .i64 a1_0, .int .i64 a1_1, .int .i64 a1_2, .int .i64 a1_3, .int .i64 a1_4, .bool a1_5] 25 (0, 0)) (by (with_reducible repeat (first | refine blk_drewN ?_ _ | refine blk_drew ?_ | refine blk_alloc ?_ _)); exact BK311.out)) : gb324 ≠ gb311)); clear HO315; clear BK311; clear HB; have HO315 := n0_; have BK311 := n1_; have HB := n2_; have BK324 := n3_; have GW324 := n4_; have GE324 := n5_; have NB311_324 := n6_; have NB324_311 := n7_; clear n0_ n1_ n2_ n3_ n4_ n5_ n6_ n7_; clear hb hbox hg; have hnb180 := NB324_311.out; have hnc180 := NB311_324.out; have hcz181_0 : w179.cell? ⟨gb324, 0, none⟩ = some (.int .i64 0) := (blk_cell BK324.out 0).trans rfl; have hcz181_1 : w179.cell? ⟨gb324, 1, none⟩ = some (.int .i64 0) := (blk_cell BK324.out 1).trans rfl; have hcz181_2 : w179.cell? ⟨gb324, 2, none⟩ = some (.int .i64 0) := (blk_cell BK324.out 2).trans rfl; have hcz181_3 : w179.cell? ⟨gb324, 3, none⟩ = some (.int .i64 0) := (blk_cell BK324.out 3).trans rfl; have hcz181_4 : w179.cell? ⟨gb324, 4, none⟩ = some (.int .i64 0) := (blk_cell BK324.out 4).trans rfl; have hcz181_5 : w179.cell? ⟨gb324, 5, none⟩ = some (.bool false) := (blk_cell BK324.out 5).trans rfl; have hfz181_0 := blk_frozen BK324.out 0; have hfz181_1 := blk_frozen BK324.out 1; have hfz181_2 := blk_frozen BK324.out 2; have hfz181_3 := blk_frozen BK324.out 3; have hfz181_4 := blk_frozen BK324.out 4; have hfz181_5 := blk_frozen BK324.out 5) | ((with_reducible refine gate_callee (f := 13) rfl ?_); refine goesL_ (some 45) rfl rfl Try.func13 (by kernel_rfl) rfl #[.slice A0 l0.length c0, .int .i64 a2] rfl (by (try simp only [List.map_toArray, List.map_cons, List.map_nil]); first | done | rfl | (simp only [List.length_drop, List.length_take]; rfl)) ?_; (with_reducible refine (region_Find.calls _ _ l0 a2 t325 t326 t327 t328 t329 t330 t331 _ ?side1 ?side2 A12.out).mono ?_); (case side1 => exact Kd.C_below HR0.out (by repeat (first | (with_reducible first | exact HB.out | apply below_alloc | apply pw_below_drewN | apply below_drew1 | refine below_set ?_ GE311.out | refine below_set ?_ GE324.out) | exact HB.out))); (case side2 => exact HC0.out); rintro e w182 ⟨rfl, hb⟩; refine ⟨_, rfl, ?_⟩; have n0_ := Aside0.mk (Kd.R_below (by (with_reducible repeat (first | apply Kd.R_alloc | apply Kd.R_drewN | apply Kd.R_drew)); exact (Kd.R_mono (Kd.R_far (p := ⟨gb324, 5, none⟩) (Kd.R_far (p := ⟨gb324, 4, none⟩) (Kd.R_far (p := ⟨gb324, 3, none⟩) (Kd.R_far (p := ⟨gb324, 2, none⟩) (Kd.R_far (p := ⟨gb324, 1, none⟩) (Kd.R_far (p := ⟨gb324, 0, none⟩) (Kd.R_mono HO315.out (fun k_ hk => (⟨hk, hk.2⟩ : _ ∧ k_ ≠ gb324))) (fun _ hk => hk.2) (.int .i64 t317)) (fun _ hk => hk.2) (.int .i64 t318)) (fun _ hk => hk.2) (.int .i64 t319)) (fun _ hk => hk.2) (.int .i64 t320)) (fun _ hk => hk.2) (.int .i64 t321)) (fun _ hk => hk.2) (.bool t322)) (fun _ h_ => h_.1))) hb); have n1_ := Aside0.mk (blk_below (g := gb311) (o := .cells #[.int .i64 a1_0, .int .i64 a1_1, .int .i64 a1_2, .int .i64 a1_3, .int .i64 a1_4, .bool a1_5] 25 (0, 0)) (by (with_reducible repeat (first | refine blk_drewN ?_ _ | refine blk_drew ?_ | refine blk_alloc ?_ _)); refine blk_far ?_ NB311_324.out _; (with_reducible repeat (first | refine blk_drewN ?_ _ | refine blk_drew ?_ | refine blk_alloc ?_ _)); refine blk_far ?_ NB311_324.out _; (with_reducible repeat (first | refine blk_drewN ?_ _ | refine blk_drew ?_ | refine blk_alloc ?_ _)); refine blk_far ?_ NB311_324.out _; (with_reducible repeat (first | refine blk_drewN ?_ _ | refine blk_drew ?_ | refine blk_alloc ?_ _)); refine blk_far ?_ NB311_324.out _; (with_reducible repeat (first | refine blk_drewN ?_ _ | refine blk_drew ?_ | refine blk_alloc ?_ _)); refine blk_far ?_ NB311_324.out _; (with_reducible repeat (first | refine blk_drewN ?_ _ | refine blk_drew ?_ | refine blk_alloc ?_ _)); refine blk_far ?_ NB311_324.out _; (with_reducible repeat (first | refine blk_drewN ?_ _ | refine blk_drew ?_ | refine blk_alloc ?_ _)); exact BK311.out) hb); have n2_ := Aside0.mk (blk_below (g := gb324) (o := .cells #[.int .i64 t317, .int .i64 t318, .int .i64 t319, .int .i64 t320, .int .i64 t321, .bool t322] 25 (0, 0)) (by (with_reducible repeat (first | refine blk_drewN ?_ _ | refine blk_drew ?_ | refine blk_alloc ?_ _)); refine blk_put (cs := #[.int .i64 t317, .int .i64 t318, .int .i64 t319, .int .i64 t320, .int .i64 t321, .bool false]) ?_ 5 _ rfl; (with_reducible repeat (first | refine blk_drewN ?_ _ | refine blk_drew ?_ | refine blk_alloc ?_ _)); refine blk_put (cs := #[.int .i64 t317, .int .i64 t318, .int .i64 t319, .int .i64 t320, .int .i64 0, .bool false]) ?_ 4 _ rfl; (with_reducible repeat (first | refine blk_drewN ?_ _ | refine blk_drew ?_ | refine blk_alloc ?_ _)); refine blk_put (cs := #[.int .i64 t317, .int .i64 t318, .int .i64 t319, .int .i64 0, .int .i64 0, .bool false]) ?_ 3 _ rfl; (with_reducible repeat (first | refine blk_drewN ?_ _ | refine blk_drew ?_ | refine blk_alloc ?_ _)); refine blk_put (cs := #[.int .i64 t317, .int .i64 t318, .int .i64 0, .int .i64 0, .int .i64 0, .bool false]) ?_ 2 _ rfl; (with_reducible repeat (first | refine blk_drewN ?_ _ | refine blk_drew ?_ | refine blk_alloc ?_ _)); refine blk_put (cs := #[.int .i64 t317, .int .i64 0, .int .i64 0, .int .i64 0, .int .i64 0, .bool false]) ?_ 1 _ rfl; (with_reducible repeat (first | refine blk_drewN ?_ _ | refine blk_drew ?_ | refine blk_alloc ?_ _)); refine blk_put (cs := #[.int .i64 0, .int .i64 0, .int .i64 0, .int .i64 0, .int .i64 0, .bool false]) ?_ 0 _ rfl; (with_reducible repeat (first | refine blk_drewN ?_ _ | refine blk_drew ?_ | refine blk_alloc ?_ _)); exact BK324.out) hb); have n3_ := Aside0.mk (below_step (by repeat (first | (with_reducible first | exact HB.out | apply below_alloc | apply pw_below_drewN | apply below_drew1 | refine below_set ?_ GE311.out | refine below_set ?_ GE324.out) | exact HB.out)) hb); clear HO315; clear BK311; clear BK324; clear HB; have HO315 := n0_; have BK311 := n1_; have BK324 := n2_; have HB := n3_; clear n0_ n1_ n2_ n3_; (try clear hb); (try clear hb2); (try clear hk); (try clear hi)) | ((with_reducible refine gate_dst (N := 12) rfl ?_); (try (refine gate_guard (by rfl) ?_; dsimp only)); refine box_event ?hg (N := 12) ?hd (cs := #[.int .i64 0, .int .i64 0, .int .i64 0, .int .i64 0, .int .i64 0, .bool false]) (t := 25) ?hr ?_; (case hd => rfl); (case hg => rfl); (case hr => first | (go_simp; done) | (go_simp; rfl)); intro gb332 hg w183 hbox hb; have n0_ := Aside0.mk (Kd.R_below (Kd.R_elderB (by (with_reducible repeat (first | apply Kd.R_alloc | apply Kd.R_drewN | apply Kd.R_drew)); exact HO315.out) gb332 (Nat.le_of_eq hg.symm)) hb); have n1_ := Aside0.mk (blk_below (g := gb311) (o := .cells #[.int .i64 a1_0, .int .i64 a1_1, .int .i64 a1_2, .int .i64 a1_3, .int .i64 a1_4, .bool a1_5] 25 (0, 0)) (by (with_reducible repeat (first | refine blk_drewN ?_ _ | refine blk_drew ?_ | refine blk_alloc ?_ _)); exact BK311.out) hb); have n2_ := Aside0.mk (blk_below (g := gb324) (o := .cells #[.int .i64 t317, .int .i64 t318, .int .i64 t319, .int .i64 t320, .int .i64 t321, .bool t322] 25 (0, 0)) (by (with_reducible repeat (first | refine blk_drewN ?_ _ | refine blk_drew ?_ | refine blk_alloc ?_ _)); exact BK324.out) hb); have n3_ := Aside0.mk (below_step (by repeat (first | (with_reducible first | exact HB.out | apply below_alloc | apply pw_below_drewN | apply below_drew1 | refine below_set ?_ GE311.out | refine below_set ?_ GE324.out) | exact HB.out)) hb); have n4_ := Aside0.mk (hbox); have n5_ := Aside0.mk ((by rw [hg]; exact (below_size (by repeat (first | (with_reducible first | exact HB.out | apply below_alloc | apply pw_below_drewN | apply below_drew1 | refine below_set ?_ GE311.out | refine below_set ?_ GE324.out) | exact HB.out))) : w.heap.size ≤ gb332)); have n6_ := Aside0.mk ((by rw [hg]; exact (below_size (by repeat (first | (with_reducible first | exact HB.out | apply below_alloc | apply pw_below_drewN | apply below_drew1 | refine below_set ?_ GE311.out | refine below_set ?_ GE324.out) | exact HB.out))) : w.heap.size ≤ gb332)); have n7_ := Aside0.mk ((by rw [hg]; exact Nat.ne_of_lt (blk_lt (g := gb311) (o := .cells #[.int .i64 a1_0, .int .i64 a1_1, .int .i64 a1_2, .int .i64 a1_3, .int .i64 a1_4, .bool a1_5] 25 (0, 0)) (by (with_reducible repeat (first | refine blk_drewN ?_ _ | refine blk_drew ?_ | refine blk_alloc ?_ _)); exact BK311.out)) : gb311 ≠ gb332)); have n8_ := Aside0.mk ((by rw [hg]; exact Nat.ne_of_gt (blk_lt (g := gb311) (o := .cells #[.int .i64 a1_0, .int .i64 a1_1, .int .i64 a1_2, .int .i64 a1_3, .int .i64 a1_4, .bool a1_5] 25 (0, 0)) (by (with_reducible repeat (first | refine blk_drewN ?_ _ | refine blk_drew ?_ | refine blk_alloc ?_ _)); exact BK311.out)) : gb332 ≠ gb311)); have n9_ := Aside0.mk ((by rw [hg]; exact Nat.ne_of_lt (blk_lt (g := gb324) (o := .cells #[.int .i64 t317, .int .i64 t318, .int .i64 t319, .int .i64 t320, .int .i64 t321, .bool t322] 25 (0, 0)) (by (with_reducible repeat (first | refine blk_drewN ?_ _ | refine blk_drew ?_ | refine blk_alloc ?_ _)); exact BK324.out)) : gb324 ≠ gb332)); have n10_ := Aside0.mk ((by rw [hg]; exact Nat.ne_of_gt (blk_lt (g := gb324) (o := .cells #[.int .i64 t317, .int .i64 t318, .int .i64 t319, .int .i64 t320, .int .i64 t321, .bool t322] 25 (0, 0)) (by (with_reducible repeat (first | refine blk_drewN ?_ _ | refine blk_drew ?_ | refine blk_alloc ?_ _)); exact BK324.out)) : gb332 ≠ gb324)); clear HO315; clear BK311; clear BK324; clear HB; have HO315 := n0_; have BK311 := n1_; have BK324 := n2_; have HB := n3_; have BK332 := n4_; have GW332 := n5_; have GE332 := n6_; have NB311_332 := n7_; have NB332_311 := n8_; have NB324_332 := n9_; have NB332_324 := n10_; clear n0_ n1_ n2_ n3_ n4_ n5_ n6_ n7_ n8_ n9_ n10_; clear hb hbox hg; have hnb184 := NB332_311.out; have hnc184 := NB311_332.out; have hnb185 := NB332_324.out; have hnc185 := NB324_332.out; have hcz186_0 : w183.cell? ⟨gb332, 0, none⟩ = some (.int .i64 0) := (blk_cell BK332.out 0).trans rfl; have hcz186_1 : w183.cell? ⟨gb332, 1, none⟩ = some (.int .i64 0) := (blk_cell BK332.out 1).trans rfl; have hcz186_2 : w183.cell? ⟨gb332, 2, none⟩ = some (.int .i64 0) := (blk_cell BK332.out 2).trans rfl; have hcz186_3 : w183.cell? ⟨gb332, 3, none⟩ = some (.int .i64 0) := (blk_cell BK332.out 3).trans rfl; have hcz186_4 : w183.cell? ⟨gb332, 4, none⟩ = some (.int .i64 0) := (blk_cell BK332.out 4).trans rfl; have hcz186_5 : w183.cell? ⟨gb332, 5, none⟩ = some (.bool false) := (blk_cell BK332.out 5).trans rfl; have hfz186_0 := blk_frozen BK332.out 0; have hfz186_1 := blk_frozen BK332.out 1; have hfz186_2 := blk_frozen BK332.out 2; have hfz186_3 := blk_frozen BK332.out 3; have hfz186_4 := blk_frozen BK332.out 4; have hfz186_5 := blk_frozen BK332.out 5; have hcz187_0 : w183.cell? ⟨gb311, 0, none⟩ = some (.int .i64 a1_0) := (blk_cell BK311.out 0).trans rfl; have hcz187_1 : w183.cell? ⟨gb311, 1, none⟩ = some (.int .i64 a1_1) := (blk_cell BK311.out 1).trans rfl; have hcz187_2 : w183.cell? ⟨gb311, 2, none⟩ = some (.int .i64 a1_2) := (blk_cell BK311.out 2).trans rfl; have hcz187_3 : w183.cell? ⟨gb311, 3, none⟩ = some (.int .i64 a1_3) := (blk_cell BK311.out 3).trans rfl; have hcz187_4 : w183.cell? ⟨gb311, 4, none⟩ = some (.int .i64 a1_4) := (blk_cell BK311.out 4).trans rfl; have hcz187_5 : w183.cell? ⟨gb311, 5, none⟩ = some (.bool a1_5) := (blk_cell BK311.out 5).trans rfl; have hfz187_0 := blk_frozen BK311.out 0; have hfz187_1 := blk_frozen BK311.out 1; have hfz187_2 := blk_frozen BK311.out 2; have hfz187_3 := blk_frozen BK311.out 3; have hfz187_4 := blk_frozen BK311.out 4; have hfz187_5 := blk_frozen BK311.out 5; have hcz188_0 : w183.cell? ⟨gb324, 0, none⟩ = some (.int .i64 t317) := (blk_cell BK324.out 0).trans rfl; have hcz188_1 : w183.cell? ⟨gb324, 1, none⟩ = some (.int .i64 t318) := (blk_cell BK324.out 1).trans rfl; have hcz188_2 : w183.cell? ⟨gb324, 2, none⟩ = some (.int .i64 t319) := (blk_cell BK324.out 2).trans rfl; have hcz188_3 : w183.cell? ⟨gb324, 3, none⟩ = some (.int .i64 t320) := (blk_cell BK324.out 3).trans rfl; have hcz188_4 : w183.cell? ⟨gb324, 4, none⟩ = some (.int .i64 t321) := (blk_cell BK324.out 4).trans rfl; have hcz188_5 : w183.cell? ⟨gb324, 5, none⟩ = some (.bool t322) := (blk_cell BK324.out 5).trans rfl; have hfz188_0 := blk_frozen BK324.out 0; have hfz188_1 := blk_frozen BK324.out 1; have hfz188_2 := blk_frozen BK324.out 2; have hfz188_3 := blk_frozen BK324.out 3; have hfz188_4 := blk_frozen BK324.out 4; have hfz188_5 := blk_frozen BK324.out 5) | ((with_reducible refine gate_callee (f := 24) rfl ?_); refine goesL_ (some 81) rfl rfl Try.func24 (by kernel_rfl) rfl #[.slice Ao177 t313.length co177, .int .i64 a1_0, .int .i64 a1_1] rfl (by (try simp only [List.map_toArray, List.map_cons, List.map_nil]); first | done | rfl | (simp only [List.length_drop, List.length_take]; rfl)) ?_; (with_reducible refine (region_Cut.calls _ _ t313 a1_0 a1_1 t340 _ ?side1 ?side2 A166.out).mono ?_); (case side1 => refine (Kd.R_reads' (e := 25) (base := w.heap.size) (ok := fun k_ => (((True ∧ k_ ≠ gb311) ∧ k_ ≠ gb324) ∧ k_ ≠ gb332)) (n := t313.length) (c := co177) ?_).2.2; exact (by (with_reducible repeat (first | apply Kd.R_alloc | apply Kd.R_drewN | apply Kd.R_drew)); exact (Kd.R_mono (Kd.R_far (p := ⟨gb332, 5, none⟩) (Kd.R_far (p := ⟨gb332, 4, none⟩) (Kd.R_far (p := ⟨gb332, 3, none⟩) (Kd.R_far (p := ⟨gb332, 2, none⟩) (Kd.R_far (p := ⟨gb332, 1, none⟩) (Kd.R_far (p := ⟨gb332, 0, none⟩) (Kd.R_mono HO315.out (fun k_ hk => (⟨hk, hk.2⟩ : _ ∧ k_ ≠ gb332))) (fun _ hk => hk.2) (.int .i64 t325)) (fun _ hk => hk.2) (.int .i64 t326)) (fun _ hk => hk.2) (.int .i64 t327)) (fun _ hk => hk.2) (.int .i64 t328)) (fun _ hk => hk.2) (.int .i64 t329)) (fun _ hk => hk.2) (.bool t330)) (fun _ h_ => h_.1)))); (case side2 => exact (Kd.R_reads' HO315.out).2.1); rintro e w189 ⟨v341, rfl, ho0, hb⟩; refine ⟨_, rfl, ?_⟩; have n0_ := Aside0.mk (Kd.R_elder' (by (with_reducible repeat (first | apply Kd.R_alloc | apply Kd.R_drewN | apply Kd.R_drew)); exact (Kd.R_mono (Kd.R_far (p := ⟨gb332, 5, none⟩) (Kd.R_far (p := ⟨gb332, 4, none⟩) (Kd.R_far (p := ⟨gb332, 3, none⟩) (Kd.R_far (p := ⟨gb332, 2, none⟩) (Kd.R_far (p := ⟨gb332, 1, none⟩) (Kd.R_far (p := ⟨gb332, 0, none⟩) (Kd.R_mono HO315.out (fun k_ hk => (⟨hk, hk.2⟩ : _ ∧ k_ ≠ gb332))) (fun _ hk => hk.2) (.int .i64 t325)) (fun _ hk => hk.2) (.int .i64 t326)) (fun _ hk => hk.2) (.int .i64 t327)) (fun _ hk => hk.2) (.int .i64 t328)) (fun _ hk => hk.2) (.int .i64 t329)) (fun _ hk => hk.2) (.bool t330)) (fun _ h_ => h_.1))) (Kd.R_base ho0) hb); have n1_ := Aside0.mk (Kd.R_lower (Kd.R_newB (Kd.R_newB (Kd.R_newB (Kd.R_new' ho0 (Kd.R_lt (by (with_reducible repeat (first | apply Kd.R_alloc | apply Kd.R_drewN | apply Kd.R_drew)); exact (Kd.R_mono (Kd.R_far (p := ⟨gb332, 5, none⟩) (Kd.R_far (p := ⟨gb332, 4, none⟩) (Kd.R_far (p := ⟨gb332, 3, none⟩) (Kd.R_far (p := ⟨gb332, 2, none⟩) (Kd.R_far (p := ⟨gb332, 1, none⟩) (Kd.R_far (p := ⟨gb332, 0, none⟩) (Kd.R_mono HO315.out (fun k_ hk => (⟨hk, hk.2⟩ : _ ∧ k_ ≠ gb332))) (fun _ hk => hk.2) (.int .i64 t325)) (fun _ hk => hk.2) (.int .i64 t326)) (fun _ hk => hk.2) (.int .i64 t327)) (fun _ hk => hk.2) (.int .i64 t328)) (fun _ hk => hk.2) (.int .i64 t329)) (fun _ hk => hk.2) (.bool t330)) (fun _ h_ => h_.1))))) (g := gb311) (o := .cells #[.int .i64 a1_0, .int .i64 a1_1, .int .i64 a1_2, .int .i64 a1_3, .int .i64 a1_4, .bool a1_5] 25 (0, 0)) (by (with_reducible repeat (first | refine blk_drewN ?_ _ | refine blk_drew ?_ | refine blk_alloc ?_ _)); refine blk_far ?_ NB311_332.out _; (with_reducible repeat (first | refine blk_drewN ?_ _ | refine blk_drew ?_ | refine blk_alloc ?_ _)); refine blk_far ?_ NB311_332.out _; (with_reducible repeat (first | refine blk_drewN ?_ _ | refine blk_drew ?_ | refine blk_alloc ?_ _)); refine blk_far ?_ NB311_332.out _; (with_reducible repeat (first | refine blk_drewN ?_ _ | refine blk_drew ?_ | refine blk_alloc ?_ _)); refine blk_far ?_ NB311_332.out _; (with_reducible repeat (first | refine blk_drewN ?_ _ | refine blk_drew ?_ | refine blk_alloc ?_ _)); refine blk_far ?_ NB311_332.out _; (with_reducible repeat (first | refine blk_drewN ?_ _ | refine blk_drew ?_ | refine blk_alloc ?_ _)); refine blk_far ?_ NB311_332.out _; (with_reducible repeat (first | refine blk_drewN ?_ _ | refine blk_drew ?_ | refine blk_alloc ?_ _)); exact BK311.out)) (g := gb324) (o := .cells #[.int .i64 t317, .int .i64 t318, .int .i64 t319, .int .i64 t320, .int .i64 t321, .bool t322] 25 (0, 0)) (by (with_reducible repeat (first | refine blk_drewN ?_ _ | refine blk_drew ?_ | refine blk_alloc ?_ _)); refine blk_far ?_ NB324_332.out _; (with_reducible repeat (first | refine blk_drewN ?_ _ | refine blk_drew ?_ | refine blk_alloc ?_ _)); refine blk_far ?_ NB324_332.out _; (with_reducible repeat (first | refine blk_drewN ?_ _ | refine blk_drew ?_ | refine blk_alloc ?_ _)); refine blk_far ?_ NB324_332.out _; (with_reducible repeat (first | refine blk_drewN ?_ _ | refine blk_drew ?_ | refine blk_alloc ?_ _)); refine blk_far ?_ NB324_332.out _; (with_reducible repeat (first | refine blk_drewN ?_ _ | refine blk_drew ?_ | refine blk_alloc ?_ _)); refine blk_far ?_ NB324_332.out _; (with_reducible repeat (first | refine blk_drewN ?_ _ | refine blk_drew ?_ | refine blk_alloc ?_ _)); refine blk_far ?_ NB324_332.out _; (with_reducible repeat (first | refine blk_drewN ?_ _ | refine blk_drew ?_ | refine blk_alloc ?_ _)); exact BK324.out)) (g := gb332) (o := .cells #[.int .i64 t325, .int .i64 t326, .int .i64 t327, .int .i64 t328, .int .i64 t329, .bool t330] 25 (0, 0)) (by (with_reducible repeat (first | refine blk_drewN ?_ _ | refine blk_drew ?_ | refine blk_alloc ?_ _)); refine blk_put (cs := #[.int .i64 t325, .int .i64 t326, .int .i64 t327, .int .i64 t328, .int .i64 t329, .bool false]) ?_ 5 _ rfl; (with_reducible repeat (first | refine blk_drewN ?_ _ | refine blk_drew ?_ | refine blk_alloc ?_ _)); refine blk_put (cs := #[.int .i64 t325, .int .i64 t326, .int .i64 t327, .int .i64 t328, .int .i64 0, .bool false]) ?_ 4 _ rfl; (with_reducible repeat (first | refine blk_drewN ?_ _ | refine blk_drew ?_ | refine blk_alloc ?_ _)); refine blk_put (cs := #[.int .i64 t325, .int .i64 t326, .int .i64 t327, .int .i64 0, .int .i64 0, .bool false]) ?_ 3 _ rfl; (with_reducible repeat (first | refine blk_drewN ?_ _ | refine blk_drew ?_ | refine blk_alloc ?_ _)); refine blk_put (cs := #[.int .i64 t325, .int .i64 t326, .int .i64 0, .int .i64 0, .int .i64 0, .bool false]) ?_ 2 _ rfl; (with_reducible repeat (first | refine blk_drewN ?_ _ | refine blk_drew ?_ | refine blk_alloc ?_ _)); refine blk_put (cs := #[.int .i64 t325, .int .i64 0, .int .i64 0, .int .i64 0, .int .i64 0, .bool false]) ?_ 1 _ rfl; (with_reducible repeat (first | refine blk_drewN ?_ _ | refine blk_drew ?_ | refine blk_alloc ?_ _)); refine blk_put (cs := #[.int .i64 0, .int .i64 0, .int .i64 0, .int .i64 0, .int .i64 0, .bool false]) ?_ 0 _ rfl; (with_reducible repeat (first | refine blk_drewN ?_ _ | refine blk_drew ?_ | refine blk_alloc ?_ _)); exact BK332.out)) (below_size (by repeat (first | (with_reducible first | exact HB.out | apply below_alloc | apply pw_below_drewN | apply below_drew1 | refine below_set ?_ GE311.out | refine below_set ?_ GE324.out | refine below_set ?_ GE332.out) | exact HB.out)))); have n2_ := Aside0.mk (blk_below (g := gb311) (o := .cells #[.int .i64 a1_0, .int .i64 a1_1, .int .i64 a1_2, .int .i64 a1_3, .int .i64 a1_4, .bool a1_5] 25 (0, 0)) (by (with_reducible repeat (first | refine blk_drewN ?_ _ | refine blk_drew ?_ | refine blk_alloc ?_ _)); refine blk_far ?_ NB311_332.out _; (with_reducible repeat (first | refine blk_drewN ?_ _ | refine blk_drew ?_ | refine blk_alloc ?_ _)); refine blk_far ?_ NB311_332.out _; (with_reducible repeat (first | refine blk_drewN ?_ _ | refine blk_drew ?_ | refine blk_alloc ?_ _)); refine blk_far ?_ NB311_332.out _; (with_reducible repeat (first | refine blk_drewN ?_ _ | refine blk_drew ?_ | refine blk_alloc ?_ _)); refine blk_far ?_ NB311_332.out _; (with_reducible repeat (first | refine blk_drewN ?_ _ | refine blk_drew ?_ | refine blk_alloc ?_ _)); refine blk_far ?_ NB311_332.out _; (with_reducible repeat (first | refine blk_drewN ?_ _ | refine blk_drew ?_ | refine blk_alloc ?_ _)); refine blk_far ?_ NB311_332.out _; (with_reducible repeat (first | refine blk_drewN ?_ _ | refine blk_drew ?_ | refine blk_alloc ?_ _)); exact BK311.out) hb); have n3_ := Aside0.mk (blk_below (g := gb324) (o := .cells #[.int .i64 t317, .int .i64 t318, .int .i64 t319, .int .i64 t320, .int .i64 t321, .bool t322] 25 (0, 0)) (by (with_reducible repeat (first | refine blk_drewN ?_ _ | refine blk_drew ?_ | refine blk_alloc ?_ _)); refine blk_far ?_ NB324_332.out _; (with_reducible repeat (first | refine blk_drewN ?_ _ | refine blk_drew ?_ | refine blk_alloc ?_ _)); refine blk_far ?_ NB324_332.out _; (with_reducible repeat (first | refine blk_drewN ?_ _ | refine blk_drew ?_ | refine blk_alloc ?_ _)); refine blk_far ?_ NB324_332.out _; (with_reducible repeat (first | refine blk_drewN ?_ _ | refine blk_drew ?_ | refine blk_alloc ?_ _)); refine blk_far ?_ NB324_332.out _; (with_reducible repeat (first | refine blk_drewN ?_ _ | refine blk_drew ?_ | refine blk_alloc ?_ _)); refine blk_far ?_ NB324_332.out _; (with_reducible repeat (first | refine blk_drewN ?_ _ | refine blk_drew ?_ | refine blk_alloc ?_ _)); refine blk_far ?_ NB324_332.out _; (with_reducible repeat (first | refine blk_drewN ?_ _ | refine blk_drew ?_ | refine blk_alloc ?_ _)); exact BK324.out) hb); have n4_ := Aside0.mk (blk_below (g := gb332) (o := .cells #[.int .i64 t325, .int .i64 t326, .int .i64 t327, .int .i64 t328, .int .i64 t329, .bool t330] 25 (0, 0)) (by (with_reducible repeat (first | refine blk_drewN ?_ _ | refine blk_drew ?_ | refine blk_alloc ?_ _)); refine blk_put (cs := #[.int .i64 t325, .int .i64 t326, .int .i64 t327, .int .i64 t328, .int .i64 t329, .bool false]) ?_ 5 _ rfl; (with_reducible repeat (first | refine blk_drewN ?_ _ | refine blk_drew ?_ | refine blk_alloc ?_ _)); refine blk_put (cs := #[.int .i64 t325, .int .i64 t326, .int .i64 t327, .int .i64 t328, .int .i64 0, .bool false]) ?_ 4 _ rfl; (with_reducible repeat (first | refine blk_drewN ?_ _ | refine blk_drew ?_ | refine blk_alloc ?_ _)); refine blk_put (cs := #[.int .i64 t325, .int .i64 t326, .int .i64 t327, .int .i64 0, .int .i64 0, .bool false]) ?_ 3 _ rfl; (with_reducible repeat (first | refine blk_drewN ?_ _ | refine blk_drew ?_ | refine blk_alloc ?_ _)); refine blk_put (cs := #[.int .i64 t325, .int .i64 t326, .int .i64 0, .int .i64 0, .int .i64 0, .bool false]) ?_ 2 _ rfl; (with_reducible repeat (first | refine blk_drewN ?_ _ | refine blk_drew ?_ | refine blk_alloc ?_ _)); refine blk_put (cs := #[.int .i64 t325, .int .i64 0, .int .i64 0, .int .i64 0, .int .i64 0, .bool false]) ?_ 1 _ rfl; (with_reducible repeat (first | refine blk_drewN ?_ _ | refine blk_drew ?_ | refine blk_alloc ?_ _)); refine blk_put (cs := #[.int .i64 0, .int .i64 0, .int .i64 0, .int .i64 0, .int .i64 0, .bool false]) ?_ 0 _ rfl; (with_reducible repeat (first | refine blk_drewN ?_ _ | refine blk_drew ?_ | refine blk_alloc ?_ _)); exact BK332.out) hb); have n5_ := Aside0.mk (below_step (by repeat (first | (with_reducible first | exact HB.out | apply below_alloc | apply pw_below_drewN | apply below_drew1 | refine below_set ?_ GE311.out | refine below_set ?_ GE324.out | refine below_set ?_ GE332.out) | exact HB.out)) hb); clear HO315; clear BK311; clear BK324; clear BK332; clear HB; have HO315 := n0_; have HO342 := n1_; have BK311 := n2_; have BK324 := n3_; have BK332 := n4_; have HB := n5_; clear n0_ n1_ n2_ n3_ n4_ n5_; (try clear hb); (try clear hb2); (try clear hk); (try clear hi); (try clear ho0); obtain ⟨Ao190, co190, eo190⟩ := Kd.R_slice HO342.out; subst eo190) | ((with_reducible refine gate_callee (f := 15) rfl ?_); refine goesL_ (some 83) rfl rfl Try.func15 (by kernel_rfl) rfl #[.slice Ao190 t340.length co190, .slice A0 l0.length c0] rfl (by (try simp only [List.map_toArray, List.map_cons, List.map_nil]); first | done | rfl | (simp only [List.length_drop, List.length_take]; rfl)) ?_; (with_reducible refine (millpondref07_Same.calls k _ _ t340 _ _ l0 true _ ?side1 ?side2 ?side3 ?side4 A167.out).mono ?_); (case side1 => repeat (first | exact (Kd.R_reads' HO342.out).2.2 | (with_reducible refine Kd.C_alloc ?_ _) | (with_reducible refine Kd.C_drewN ?_ _) | (with_reducible refine Kd.C_drew ?_))); (case side2 => exact (Kd.R_reads' HO342.out).2.1); (case side3 => repeat (first | exact (Kd.C_below HR0.out HB.out) | (with_reducible refine Kd.C_alloc ?_ _) | (with_reducible refine Kd.C_drewN ?_ _) | (with_reducible refine Kd.C_drew ?_))); (case side4 => exact HC0.out); rintro e w' ⟨rfl, ⟨nd, rfl⟩⟩; refine ⟨_, rfl, ?_⟩))
                    (try (rw [drewN_self w189]; generalize hq_ : World.drewN w189 _ = w189; have n0_ : Aside0 (Kd.R k25 25 w189 w.heap.size (fun k_ => some k_ ≠ (.slice Ao190 t340.length co190 : Value).ownBlock ∧ k_ ≠ gb311 ∧ k_ ≠ gb324 ∧ k_ ≠ gb332) (.slice Ao177 t313.length co177) t313) := ⟨by rw [← hq_]; exact (by (with_reducible repeat (first | apply Kd.R_alloc | apply Kd.R_drewN | apply Kd.R_drew)); exact Kd.R_mono HO315.out (fun _ hk => ⟨hk.2, ⟨hk.1.1.1.2, ⟨hk.1.1.2, hk.1.2⟩⟩⟩))⟩; have n1_ : Aside0 (Kd.R k25 25 w189 w.heap.size (fun k_ => some k_ ≠ (.slice Ao177 t313.length co177 : Value).ownBlock ∧ k_ ≠ gb311 ∧ k_ ≠ gb324 ∧ k_ ≠ gb332) (.slice Ao190 t340.length co190) t340) := ⟨by rw [← hq_]; exact (by (with_reducible repeat (first | apply Kd.R_alloc | apply Kd.R_drewN | apply Kd.R_drew)); exact Kd.R_mono HO342.out (fun _ hk => ⟨hk.1.1.1.2, ⟨hk.1.1.2, ⟨hk.1.2, hk.2⟩⟩⟩))⟩; have n2_ : Aside0 (w189.heap[gb311]? = some (.cells #[.int .i64 a1_0, .int .i64 a1_1, .int .i64 a1_2, .int .i64 a1_3, .int .i64 a1_4, .bool a1_5] 25 (0, 0))) := ⟨by rw [← hq_]; exact (by (with_reducible repeat (first | refine blk_drewN ?_ _ | refine blk_drew ?_ | refine blk_alloc ?_ _)); exact BK311.out)⟩; have n3_ : Aside0 (w189.heap[gb324]? = some (.cells #[.int .i64 t317, .int .i64 t318, .int .i64 t319, .int .i64 t320, .int .i64 t321, .bool t322] 25 (0, 0))) := ⟨by rw [← hq_]; exact (by (with_reducible repeat (first | refine blk_drewN ?_ _ | refine blk_drew ?_ | refine blk_alloc ?_ _)); exact BK324.out)⟩; have n4_ : Aside0 (w189.heap[gb332]? = some (.cells #[.int .i64 t325, .int .i64 t326, .int .i64 t327, .int .i64 t328, .int .i64 t329, .bool t330] 25 (0, 0))) := ⟨by rw [← hq_]; exact (by (with_reducible repeat (first | refine blk_drewN ?_ _ | refine blk_drew ?_ | refine blk_alloc ?_ _)); exact BK332.out)⟩; have n5_ : Aside0 (Below w.heap.size w w189) := ⟨by rw [← hq_]; exact (by repeat (first | (with_reducible first | exact HB.out | apply below_alloc | apply pw_below_drewN | apply below_drew1 | refine below_set ?_ GE311.out | refine below_set ?_ GE324.out | refine below_set ?_ GE332.out) | exact HB.out))⟩; clear HO315 HO342 BK311 BK324 BK332 HB hq_; have HO315 := n0_; have HO342 := n1_; have BK311 := n2_; have BK324 := n3_; have BK332 := n4_; have HB := n5_; clear n0_ n1_ n2_ n3_ n4_ n5_))
                    have n0_ := Aside0.mk (Kd.R_drew HO315.out)
                    have n1_ := Aside0.mk (Kd.R_drew HO342.out)
                    have n2_ := Aside0.mk (blk_drew BK311.out)
                    have n3_ := Aside0.mk (blk_drew BK324.out)
                    have n4_ := Aside0.mk (blk_drew BK332.out)
                    have n5_ := Aside0.mk (below_drew1 HB.out)
                    clear HO315
                    clear HO342
                    clear BK311
                    clear BK324
                    clear BK332
                    clear HB
                    have HO315 := n0_
                    have HO342 := n1_
                    have BK311 := n2_
                    have BK324 := n3_
                    have BK332 := n4_
                    have HB := n5_
                    clear n0_ n1_ n2_ n3_ n4_ n5_
                    refine start_ (n := 22) (S := fun w' => w'.cell? ⟨gb311, 0, none⟩ = some (.int .i64 a1_0) ∧ w'.cell? ⟨gb311, 1, none⟩ = some (.int .i64 a1_1) ∧ w'.cell? ⟨gb311, 2, none⟩ = some (.int .i64 a1_2) ∧ w'.cell? ⟨gb311, 3, none⟩ = some (.int .i64 a1_3) ∧ w'.cell? ⟨gb311, 4, none⟩ = some (.int .i64 a1_4) ∧ w'.cell? ⟨gb311, 5, none⟩ = some (.bool a1_5)) (ds := []) #[false, false, false, false, false, false, false, false, false, false, false, false, false, false, false, false, false, false, false, false, false, false] (by kernel_rfl) rfl rfl ⟨(blk_cell BK311.out 0).trans rfl, (blk_cell BK311.out 1).trans rfl, (blk_cell BK311.out 2).trans rfl, (blk_cell BK311.out 3).trans rfl, (blk_cell BK311.out 4).trans rfl, (blk_cell BK311.out 5).trans rfl⟩ (fun hHeld => ?_); refine with_tabW millpondlaw07_RegionHas.tab17 millpondlaw07_RegionHas.bits17 (fun HT_ HW_ => ?_)
                    generalize w189.drew = w191 at HO315 HO342 BK311 BK324 BK332 HB hHeld ⊢
                    refine pure_ (i := 0) (N := some 84) (v := ?_) (a' := ?_) #[true, false, false, false, false, false, false, false, false, false, false, false, false, false, false, false, false, false, false, false, false, false] rfl rfl (any_of HT_.out (by kernel_rfl)) (fun _ _ _ h => h) (Or.inl ⟨by rfl, ?_⟩) ?_ ?_
                    rotate_left
                    · intro w'
                      go_simp
                      with_reducible rfl
                    rotate_left
                    · simp only [Act.put, List.setIfInBounds_toArray, List.set_cons_zero, List.set_cons_succ, i64_w, i32_w]
                      rfl
                    refine pure_ (i := 1) (N := some 85) (v := ?_) (a' := ?_) #[true, true, false, false, false, false, false, false, false, false, false, false, false, false, false, false, false, false, false, false, false, false] rfl rfl (any_of HT_.out (by kernel_rfl)) (fun _ _ _ h => h) (Or.inl ⟨by rfl, ?_⟩) ?_ ?_
                    rotate_left
                    · intro w'
                      go_simp
                      with_reducible rfl
                    rotate_left
                    · simp only [Act.put, List.setIfInBounds_toArray, List.set_cons_zero, List.set_cons_succ, i64_w, i32_w]
                      rfl
                    refine pure_ (i := 2) (N := some 86) (v := ?_) (a' := ?_) #[true, true, true, false, false, false, false, false, false, false, false, false, false, false, false, false, false, false, false, false, false, false] rfl rfl (any_of HT_.out (by kernel_rfl)) (fun _ _ _ h => h) (Or.inl ⟨by rfl, ?_⟩) ?_ ?_
                    rotate_left
                    · intro w'
                      go_simp
                      with_reducible rfl
                    rotate_left
                    · simp only [Act.put, List.setIfInBounds_toArray, List.set_cons_zero, List.set_cons_succ, i64_w, i32_w]
                      rfl
                    refine pure_ (i := 3) (N := some 87) (v := ?_) (a' := ?_) #[true, true, true, true, false, false, false, false, false, false, false, false, false, false, false, false, false, false, false, false, false, false] rfl rfl (any_of HT_.out (by kernel_rfl)) (fun _ _ _ h => h) (Or.inl ⟨by rfl, ?_⟩) ?_ ?_
                    rotate_left
                    · intro w'
                      go_simp
                      with_reducible rfl
                    rotate_left
                    · simp only [Act.put, List.setIfInBounds_toArray, List.set_cons_zero, List.set_cons_succ, i64_w, i32_w]
                      rfl
                    refine pure_ (i := 4) (N := some 88) (v := ?_) (a' := ?_) #[true, true, true, true, true, false, false, false, false, false, false, false, false, false, false, false, false, false, false, false, false, false] rfl rfl (any_of HT_.out (by kernel_rfl)) (fun _ _ _ h => h) (Or.inl ⟨by rfl, ?_⟩) ?_ ?_
                    rotate_left
                    · intro w'
                      go_simp
                      with_reducible rfl
                    rotate_left
                    · simp only [Act.put, List.setIfInBounds_toArray, List.set_cons_zero, List.set_cons_succ, i64_w, i32_w]
                      rfl
                    refine pure_ (i := 5) (N := some 89) (v := ?_) (a' := ?_) #[true, true, true, true, true, true, false, false, false, false, false, false, false, false, false, false, false, false, false, false, false, false] rfl rfl (any_of HT_.out (by kernel_rfl)) (fun _ _ _ h => h) (Or.inl ⟨by rfl, ?_⟩) ?_ ?_
                    rotate_left
                    · intro w'
                      go_simp
                      with_reducible rfl
                    rotate_left
                    · simp only [Act.put, List.setIfInBounds_toArray, List.set_cons_zero, List.set_cons_succ, i64_w, i32_w]
                      rfl
                    refine pure_ (i := 7) (N := some 91) (v := ?_) (a' := ?_) #[true, true, true, true, true, true, false, true, false, false, false, false, false, false, false, false, false, false, false, false, false, false] rfl rfl (any_of HT_.out (by kernel_rfl)) (fun _ _ _ h => h) (Or.inl ⟨by rfl, ?_⟩) ?_ ?_
                    rotate_left
                    · intro w'
                      go_simp
                      with_reducible rfl
                    rotate_left
                    · simp only [Act.put, List.setIfInBounds_toArray, List.set_cons_zero, List.set_cons_succ, i64_w, i32_w]
                      rfl
                    refine pure_ (i := 9) (N := some 93) (v := ?_) (a' := ?_) #[true, true, true, true, true, true, false, true, false, true, false, false, false, false, false, false, false, false, false, false, false, false] rfl rfl (any_of HT_.out (by kernel_rfl)) (fun _ _ _ h => h) (Or.inl ⟨by rfl, ?_⟩) ?_ ?_
                    rotate_left
                    · intro w'
                      go_simp
                      with_reducible rfl
                    rotate_left
                    · simp only [Act.put, List.setIfInBounds_toArray, List.set_cons_zero, List.set_cons_succ, i64_w, i32_w]
                      rfl
                    refine pure_ (i := 12) (N := some 96) (v := ?_) (a' := ?_) #[true, true, true, true, true, true, false, true, false, true, false, false, true, false, false, false, false, false, false, false, false, false] rfl rfl (any_of HT_.out (by kernel_rfl)) (fun _ _ _ h => h) (Or.inl ⟨by rfl, ?_⟩) ?_ ?_
                    rotate_left
                    · intro w'
                      go_simp
                      with_reducible rfl
                    rotate_left
                    · simp only [Act.put, List.setIfInBounds_toArray, List.set_cons_zero, List.set_cons_succ, i64_w, i32_w]
                      rfl
                    refine take_ (i := 10) (N := some 94) (v := ?_) (a' := ?_) #[true, true, true, true, true, true, false, true, false, true, true, false, true, false, false, false, false, false, false, false, false, false] rfl rfl (take_ofW HT_.out HW_.out (by kernel_rfl)) (fun _ _ _ h => h) (Or.inl ⟨by rfl, ?_⟩) hHeld ?_ ?_
                    rotate_left
                    · rintro w' ⟨s0, s1, s2, s3, s4, s5⟩
                      go_simp
                      with_reducible rfl
                    rotate_left
                    · simp only [Act.put, List.setIfInBounds_toArray, List.set_cons_zero, List.set_cons_succ, i64_w, i32_w]
                      rfl
                    refine take_ (i := 13) (N := some 97) (v := ?_) (a' := ?_) #[true, true, true, true, true, true, false, true, false, true, true, false, true, true, false, false, false, false, false, false, false, false] rfl rfl (take_ofW HT_.out HW_.out (by kernel_rfl)) (fun _ _ _ h => h) (Or.inl ⟨by rfl, ?_⟩) hHeld ?_ ?_
                    rotate_left
                    · rintro w' ⟨s0, s1, s2, s3, s4, s5⟩
                      go_simp
                      with_reducible rfl
                    rotate_left
                    · simp only [Act.put, List.setIfInBounds_toArray, List.set_cons_zero, List.set_cons_succ, i64_w, i32_w]
                      rfl
                    refine one_ (i := 6) (N := some 90) #[true, true, true, true, true, true, true, true, false, true, true, false, true, true, false, false, false, false, false, false, false, false] rfl rfl (one_of HT_.out (by kernel_rfl)) (by decide) (fun K hK => ?_)
                    refine goes_ Try.func20 (by kernel_rfl) rfl #[.slice Ao177 t313.length co177] (by rfl) rfl rfl (by (try simp only [List.map_toArray, List.map_cons, List.map_nil]); first | done | rfl | (simp only [List.length_drop, List.length_take]; rfl)) ?_
                    with_reducible refine (region_Pages.calls k _ _ t313 t344 _ ?side1 ?side2 A169.out).mono ?_
                    (case side1 => repeat (first | exact (Kd.R_reads' HO315.out).2.2 | (with_reducible refine Kd.C_alloc ?_ _) | (with_reducible refine Kd.C_drewN ?_ _) | (with_reducible refine Kd.C_drew ?_)))
                    (case side2 => exact (Kd.R_reads' HO315.out).2.1)
                    rintro e w192 ⟨rfl, hb⟩
                    refine ⟨_, rfl, ?_⟩
                    have n0_ := Aside0.mk (Kd.R_below (by (with_reducible repeat (first | apply Kd.R_alloc | apply Kd.R_drewN | apply Kd.R_drew)); exact HO315.out) hb)
                    have n1_ := Aside0.mk (Kd.R_below (by (with_reducible repeat (first | apply Kd.R_alloc | apply Kd.R_drewN | apply Kd.R_drew)); exact HO342.out) hb)
                    have n2_ := Aside0.mk (blk_below (g := gb311) (o := .cells #[.int .i64 a1_0, .int .i64 a1_1, .int .i64 a1_2, .int .i64 a1_3, .int .i64 a1_4, .bool a1_5] 25 (0, 0)) (by (with_reducible repeat (first | refine blk_drewN ?_ _ | refine blk_drew ?_ | refine blk_alloc ?_ _)); exact BK311.out) hb)
                    have n3_ := Aside0.mk (blk_below (g := gb324) (o := .cells #[.int .i64 t317, .int .i64 t318, .int .i64 t319, .int .i64 t320, .int .i64 t321, .bool t322] 25 (0, 0)) (by (with_reducible repeat (first | refine blk_drewN ?_ _ | refine blk_drew ?_ | refine blk_alloc ?_ _)); exact BK324.out) hb)
                    have n4_ := Aside0.mk (blk_below (g := gb332) (o := .cells #[.int .i64 t325, .int .i64 t326, .int .i64 t327, .int .i64 t328, .int .i64 t329, .bool t330] 25 (0, 0)) (by (with_reducible repeat (first | refine blk_drewN ?_ _ | refine blk_drew ?_ | refine blk_alloc ?_ _)); exact BK332.out) hb)
                    have n5_ := Aside0.mk (below_step (by repeat (first | (with_reducible first | exact HB.out | apply below_alloc | apply pw_below_drewN | apply below_drew1 | refine below_set ?_ GE311.out | refine below_set ?_ GE324.out | refine below_set ?_ GE332.out) | exact HB.out)) hb)
                    clear HO315
                    clear HO342
                    clear BK311
                    clear BK324
                    clear BK332
                    clear HB
                    have HO315 := n0_
                    have HO342 := n1_
                    have BK311 := n2_
                    have BK324 := n3_
                    have BK332 := n4_
                    have HB := n5_
                    clear n0_ n1_ n2_ n3_ n4_ n5_
                    (try clear hb)
                    (try clear hb2)
                    (try clear hk)
                    (try clear hi)
                    refine hK.out _ _ ⟨(blk_cell BK311.out 0).trans rfl, (blk_cell BK311.out 1).trans rfl, (blk_cell BK311.out 2).trans rfl, (blk_cell BK311.out 3).trans rfl, (blk_cell BK311.out 4).trans rfl, (blk_cell BK311.out 5).trans rfl⟩ (fun hHeld => ?_)
                    clear hK K
                    refine norm_ (a' := ?_) ?_ ?_
                    rotate_left
                    · show Act.put _ (some 90) _ = _
                      simp only [Act.put, List.setIfInBounds_toArray, List.set_cons_zero, List.set_cons_succ, i64_w, i32_w]
                      rfl
                    refine one_ (i := 8) (N := some 92) #[true, true, true, true, true, true, true, true, true, true, true, false, true, true, false, false, false, false, false, false, false, false] rfl rfl (one_of HT_.out (by kernel_rfl)) (by decide) (fun K hK => ?_)
                    refine goes_ Try.func20 (by kernel_rfl) rfl #[.slice A0 l0.length c0] (by rfl) rfl rfl (by (try simp only [List.map_toArray, List.map_cons, List.map_nil]); first | done | rfl | (simp only [List.length_drop, List.length_take]; rfl)) ?_
                    with_reducible refine (region_Pages.calls k _ _ l0 t345 _ ?side1 ?side2 A170.out).mono ?_
                    (case side1 => repeat (first | exact (Kd.C_below HR0.out HB.out) | (with_reducible refine Kd.C_alloc ?_ _) | (with_reducible refine Kd.C_drewN ?_ _) | (with_reducible refine Kd.C_drew ?_)))
                    (case side2 => exact HC0.out)
                    rintro e w193 ⟨rfl, hb⟩
                    refine ⟨_, rfl, ?_⟩
                    have n0_ := Aside0.mk (Kd.R_below (by (with_reducible repeat (first | apply Kd.R_alloc | apply Kd.R_drewN | apply Kd.R_drew)); exact HO315.out) hb)
                    have n1_ := Aside0.mk (Kd.R_below (by (with_reducible repeat (first | apply Kd.R_alloc | apply Kd.R_drewN | apply Kd.R_drew)); exact HO342.out) hb)
                    have n2_ := Aside0.mk (blk_below (g := gb311) (o := .cells #[.int .i64 a1_0, .int .i64 a1_1, .int .i64 a1_2, .int .i64 a1_3, .int .i64 a1_4, .bool a1_5] 25 (0, 0)) (by (with_reducible repeat (first | refine blk_drewN ?_ _ | refine blk_drew ?_ | refine blk_alloc ?_ _)); exact BK311.out) hb)
                    have n3_ := Aside0.mk (blk_below (g := gb324) (o := .cells #[.int .i64 t317, .int .i64 t318, .int .i64 t319, .int .i64 t320, .int .i64 t321, .bool t322] 25 (0, 0)) (by (with_reducible repeat (first | refine blk_drewN ?_ _ | refine blk_drew ?_ | refine blk_alloc ?_ _)); exact BK324.out) hb)
                    have n4_ := Aside0.mk (blk_below (g := gb332) (o := .cells #[.int .i64 t325, .int .i64 t326, .int .i64 t327, .int .i64 t328, .int .i64 t329, .bool t330] 25 (0, 0)) (by (with_reducible repeat (first | refine blk_drewN ?_ _ | refine blk_drew ?_ | refine blk_alloc ?_ _)); exact BK332.out) hb)
                    have n5_ := Aside0.mk (below_step (by repeat (first | (with_reducible first | exact HB.out | apply below_alloc | apply pw_below_drewN | apply below_drew1 | refine below_set ?_ GE311.out | refine below_set ?_ GE324.out | refine below_set ?_ GE332.out) | exact HB.out)) hb)
                    clear HO315
                    clear HO342
                    clear BK311
                    clear BK324
                    clear BK332
                    clear HB
                    have HO315 := n0_
                    have HO342 := n1_
                    have BK311 := n2_
                    have BK324 := n3_
                    have BK332 := n4_
                    have HB := n5_
                    clear n0_ n1_ n2_ n3_ n4_ n5_
                    (try clear hb)
                    (try clear hb2)
                    (try clear hk)
                    (try clear hi)
                    refine hK.out _ _ ⟨(blk_cell BK311.out 0).trans rfl, (blk_cell BK311.out 1).trans rfl, (blk_cell BK311.out 2).trans rfl, (blk_cell BK311.out 3).trans rfl, (blk_cell BK311.out 4).trans rfl, (blk_cell BK311.out 5).trans rfl⟩ (fun hHeld => ?_)
                    clear hK K
                    refine norm_ (a' := ?_) ?_ ?_
                    rotate_left
                    · show Act.put _ (some 92) _ = _
                      simp only [Act.put, List.setIfInBounds_toArray, List.set_cons_zero, List.set_cons_succ, i64_w, i32_w]
                      rfl
                    refine pure_ (i := 11) (N := some 95) (v := ?_) (a' := ?_) #[true, true, true, true, true, true, true, true, true, true, true, true, true, true, false, false, false, false, false, false, false, false] rfl rfl (any_of HT_.out (by kernel_rfl)) (fun _ _ _ h => h) (Or.inl ⟨by rfl, ?_⟩) ?_ ?_
                    rotate_left
                    · intro w'
                      go_simp
                      with_reducible rfl
                    rotate_left
                    · simp only [Act.put, List.setIfInBounds_toArray, List.set_cons_zero, List.set_cons_succ, i64_w, i32_w]
                      rfl
                    refine pure_ (i := 14) (N := some 98) (v := ?_) (a' := ?_) #[true, true, true, true, true, true, true, true, true, true, true, true, true, true, true, false, false, false, false, false, false, false] rfl rfl (any_of HT_.out (by kernel_rfl)) (fun _ _ _ h => h) (Or.inl ⟨by rfl, ?_⟩) ?_ ?_
                    rotate_left
                    · intro w'
                      go_simp
                      with_reducible rfl
                    rotate_left
                    · simp only [Act.put, List.setIfInBounds_toArray, List.set_cons_zero, List.set_cons_succ, i64_w, i32_w]
                      rfl
                    refine pure_ (i := 15) (N := some 99) (v := ?_) (a' := ?_) #[true, true, true, true, true, true, true, true, true, true, true, true, true, true, true, true, false, false, false, false, false, false] rfl rfl (any_of HT_.out (by kernel_rfl)) (fun _ _ _ h => h) (Or.inl ⟨by rfl, ?_⟩) ?_ ?_
                    rotate_left
                    · intro w'
                      go_simp
                      with_reducible rfl
                    rotate_left
                    · simp only [Act.put, List.setIfInBounds_toArray, List.set_cons_zero, List.set_cons_succ, i64_w, i32_w]
                      rfl
                    refine pure_ (i := 16) (N := some 100) (v := ?_) (a' := ?_) #[true, true, true, true, true, true, true, true, true, true, true, true, true, true, true, true, true, false, false, false, false, false] rfl rfl (any_of HT_.out (by kernel_rfl)) (fun _ _ _ h => h) (Or.inl ⟨by rfl, ?_⟩) ?_ ?_
                    rotate_left
                    · intro w'
                      go_simp
                      with_reducible rfl
                    rotate_left
                    · simp only [Act.put, List.setIfInBounds_toArray, List.set_cons_zero, List.set_cons_succ, i64_w, i32_w]
                      rfl
                    refine pure_ (i := 17) (N := some 101) (v := ?_) (a' := ?_) #[true, true, true, true, true, true, true, true, true, true, true, true, true, true, true, true, true, true, false, false, false, false] rfl rfl (any_of HT_.out (by kernel_rfl)) (fun _ _ _ h => h) (Or.inl ⟨by rfl, ?_⟩) ?_ ?_
                    rotate_left
                    · intro w'
                      go_simp
                      with_reducible rfl
                    rotate_left
                    · simp only [Act.put, List.setIfInBounds_toArray, List.set_cons_zero, List.set_cons_succ, i64_w, i32_w]
                      rfl
                    refine pure_ (i := 18) (N := some 102) (v := ?_) (a' := ?_) #[true, true, true, true, true, true, true, true, true, true, true, true, true, true, true, true, true, true, true, false, false, false] rfl rfl (any_of HT_.out (by kernel_rfl)) (fun _ _ _ h => h) (Or.inl ⟨by rfl, ?_⟩) ?_ ?_
                    rotate_left
                    · intro w'
                      go_simp
                      with_reducible rfl
                    rotate_left
                    · simp only [Act.put, List.setIfInBounds_toArray, List.set_cons_zero, List.set_cons_succ, i64_w, i32_w]
                      rfl
                    refine one_ (i := 19) (N := some 103) #[true, true, true, true, true, true, true, true, true, true, true, true, true, true, true, true, true, true, true, true, false, false] rfl rfl (one_of HT_.out (by kernel_rfl)) (by decide) (fun K hK => ?_)
                    refine goes_ Try.func19 (by kernel_rfl) rfl #[.slice Ao177 t313.length co177] (by rfl) rfl rfl (by (try simp only [List.map_toArray, List.map_cons, List.map_nil]); first | done | rfl | (simp only [List.length_drop, List.length_take]; rfl)) ?_
                    with_reducible refine (region_Right.calls k _ _ t313 t346 _ ?side1 ?side2 A172.out).mono ?_
                    (case side1 => repeat (first | exact (Kd.R_reads' HO315.out).2.2 | (with_reducible refine Kd.C_alloc ?_ _) | (with_reducible refine Kd.C_drewN ?_ _) | (with_reducible refine Kd.C_drew ?_)))
                    (case side2 => exact (Kd.R_reads' HO315.out).2.1)
                    rintro e w194 ⟨rfl, hb⟩
                    refine ⟨_, rfl, ?_⟩
                    have n0_ := Aside0.mk (Kd.R_below (by (with_reducible repeat (first | apply Kd.R_alloc | apply Kd.R_drewN | apply Kd.R_drew)); exact HO315.out) hb)
                    have n1_ := Aside0.mk (Kd.R_below (by (with_reducible repeat (first | apply Kd.R_alloc | apply Kd.R_drewN | apply Kd.R_drew)); exact HO342.out) hb)
                    have n2_ := Aside0.mk (blk_below (g := gb311) (o := .cells #[.int .i64 a1_0, .int .i64 a1_1, .int .i64 a1_2, .int .i64 a1_3, .int .i64 a1_4, .bool a1_5] 25 (0, 0)) (by (with_reducible repeat (first | refine blk_drewN ?_ _ | refine blk_drew ?_ | refine blk_alloc ?_ _)); exact BK311.out) hb)
                    have n3_ := Aside0.mk (blk_below (g := gb324) (o := .cells #[.int .i64 t317, .int .i64 t318, .int .i64 t319, .int .i64 t320, .int .i64 t321, .bool t322] 25 (0, 0)) (by (with_reducible repeat (first | refine blk_drewN ?_ _ | refine blk_drew ?_ | refine blk_alloc ?_ _)); exact BK324.out) hb)
                    have n4_ := Aside0.mk (blk_below (g := gb332) (o := .cells #[.int .i64 t325, .int .i64 t326, .int .i64 t327, .int .i64 t328, .int .i64 t329, .bool t330] 25 (0, 0)) (by (with_reducible repeat (first | refine blk_drewN ?_ _ | refine blk_drew ?_ | refine blk_alloc ?_ _)); exact BK332.out) hb)
                    have n5_ := Aside0.mk (below_step (by repeat (first | (with_reducible first | exact HB.out | apply below_alloc | apply pw_below_drewN | apply below_drew1 | refine below_set ?_ GE311.out | refine below_set ?_ GE324.out | refine below_set ?_ GE332.out) | exact HB.out)) hb)
                    clear HO315
                    clear HO342
                    clear BK311
                    clear BK324
                    clear BK332
                    clear HB
                    have HO315 := n0_
                    have HO342 := n1_
                    have BK311 := n2_
                    have BK324 := n3_
                    have BK332 := n4_
                    have HB := n5_
                    clear n0_ n1_ n2_ n3_ n4_ n5_
                    (try clear hb)
                    (try clear hb2)
                    (try clear hk)
                    (try clear hi)
                    refine hK.out _ _ ⟨(blk_cell BK311.out 0).trans rfl, (blk_cell BK311.out 1).trans rfl, (blk_cell BK311.out 2).trans rfl, (blk_cell BK311.out 3).trans rfl, (blk_cell BK311.out 4).trans rfl, (blk_cell BK311.out 5).trans rfl⟩ (fun hHeld => ?_)
                    clear hK K
                    refine norm_ (a' := ?_) ?_ ?_
                    rotate_left
                    · show Act.put _ (some 103) _ = _
                      simp only [Act.put, List.setIfInBounds_toArray, List.set_cons_zero, List.set_cons_succ, i64_w, i32_w]
                      rfl
                    refine pure_ (i := 20) (N := some 104) (v := ?_) (a' := ?_) #[true, true, true, true, true, true, true, true, true, true, true, true, true, true, true, true, true, true, true, true, true, false] rfl rfl (any_of HT_.out (by kernel_rfl)) (fun _ _ _ h => h) (Or.inl ⟨by rfl, ?_⟩) ?_ ?_
                    rotate_left
                    · intro w'
                      go_simp
                      with_reducible rfl
                    rotate_left
                    · simp only [Act.put, List.setIfInBounds_toArray, List.set_cons_zero, List.set_cons_succ, i64_w, i32_w]
                      rfl
                    refine pure_ (i := 21) (N := some 6) (v := ?_) (a' := ?_) #[true, true, true, true, true, true, true, true, true, true, true, true, true, true, true, true, true, true, true, true, true, true] rfl rfl (any_of HT_.out (by kernel_rfl)) (fun _ _ _ h => h) (Or.inl ⟨by rfl, ?_⟩) ?_ ?_
                    rotate_left
                    · intro w'
                      go_simp
                      with_reducible rfl
                    rotate_left
                    · simp only [Act.put, List.setIfInBounds_toArray, List.set_cons_zero, List.set_cons_succ, i64_w, i32_w]
                      rfl
                    refine done_ (done_of HT_.out (by kernel_rfl)) ?_
                    try go_wp2
                    go_ret
                    exact ⟨by first | rfl | (simp [errW_none, errW_some] <;> rfl) | (simp [*, errW_none, errW_some] <;> rfl), by repeat (first | (with_reducible first | exact HB.out | apply below_alloc | apply pw_below_drewN | apply below_drew1 | refine below_set ?_ GE311.out | refine below_set ?_ GE324.out | refine below_set ?_ GE332.out) | exact HB.out)⟩
                  · rw [if_neg c171] at H
                    have c171b0 : (t344 == (wrap64 ((wrap64 (t345 + a1_1)) - a1_0))) = false := beq_eq_false_iff_ne.mpr c171
                    have c171b1 : (t344 != (wrap64 ((wrap64 (t345 + a1_1)) - a1_0))) = true := bne_iff_ne.mpr c171
                    exact absurd ((Option.some.inj H).trans hrT.out) (by decide)
                · replace c168 := Bool.eq_false_iff.mpr c168
                  subst c168
                  have H1 : (some false) = some r := by rw [if_neg (show ¬ (false = true) by decide)] at H; exact H
                  clear H
                  have H := H1
                  clear H1
                  exact absurd ((Option.some.inj H).trans hrT.out) (by decide)
        · rw [if_neg c13] at H
          have c13b0 : decide (a1_0 ≤ a2) = false := decide_eq_false c13
          clear c13
          by_cases c235 : (t323 != t331) = true
          · rw [if_pos c235] at H
            have c235b0 : (t323 != t331) = true := c235
            (try (have c235b1 : decide (t323 = t331) = false := by simpa using c235))
            (try (have c235b2 : (t323 == t331) = false := by simpa using c235))
            (try (have c235b3 : ¬ (t323 = t331) := by simpa using c235))
            clear c235
            exact absurd ((Option.some.inj H).trans hrT.out) (by decide)
          · rw [if_neg c235] at H
            have c235b0 : (t323 != t331) = false := by simpa using c235
            (try (have c235b1 : decide (t323 = t331) = true := by simpa using c235))
            (try (have c235b2 : (t323 == t331) = true := by simpa using c235))
            clear c235
            by_cases c251 : (!(t317 == t325) || (!(t318 == t326) || (!(t319 == t327) || (!(t320 == t328) || (!(t321 == t329) || (!(t322 == t330))))))) = true
            · rw [if_pos c251] at H
              have c251b0 : (!(t317 == t325) || (!(t318 == t326) || (!(t319 == t327) || (!(t320 == t328) || (!(t321 == t329) || (!(t322 == t330))))))) = true := c251
              clear c251
              exact absurd ((Option.some.inj H).trans hrT.out) (by decide)
            · rw [if_neg c251] at H
              have c251b0 : (!(t317 == t325) || (!(t318 == t326) || (!(t319 == t327) || (!(t320 == t328) || (!(t321 == t329) || (!(t322 == t330))))))) = false := by simpa using c251
              clear c251
              replace H := Option.bind_eq_some_iff.mp H
              obtain ⟨t347, A2680, H⟩ := H
              replace H : ((millpondref07_Same.f k t347 l0).bind fun t350 => (if t350 = true then ((region_Pages.f k t313).bind fun t351 => ((region_Pages.f k l0).bind fun t352 => (if t351 = (wrap64 ((wrap64 (t352 + a1_1)) - a1_0)) then ((region_Right.f k t313).bind fun t353 => (some t353)) else (some false)))) else (some false))) = some r := H
              have A268 := Aside0.mk A2680
              clear A2680
              replace H := Option.bind_eq_some_iff.mp H
              obtain ⟨t350, A2690, H⟩ := H
              replace H : (if t350 = true then ((region_Pages.f k t313).bind fun t351 => ((region_Pages.f k l0).bind fun t352 => (if t351 = (wrap64 ((wrap64 (t352 + a1_1)) - a1_0)) then ((region_Right.f k t313).bind fun t353 => (some t353)) else (some false)))) else (some false)) = some r := H
              have A269 := Aside0.mk A2690
              clear A2690
              by_cases c270 : t350 = true
              · subst c270
                have H1 : ((region_Pages.f k t313).bind fun t351 => ((region_Pages.f k l0).bind fun t352 => (if t351 = (wrap64 ((wrap64 (t352 + a1_1)) - a1_0)) then ((region_Right.f k t313).bind fun t353 => (some t353)) else (some false)))) = some r := by rw [if_pos rfl] at H; exact H
                clear H
                have H := H1
                clear H1
                replace H := Option.bind_eq_some_iff.mp H
                obtain ⟨t351, A2710, H⟩ := H
                replace H : ((region_Pages.f k l0).bind fun t352 => (if t351 = (wrap64 ((wrap64 (t352 + a1_1)) - a1_0)) then ((region_Right.f k t313).bind fun t353 => (some t353)) else (some false))) = some r := H
                have A271 := Aside0.mk A2710
                clear A2710
                replace H := Option.bind_eq_some_iff.mp H
                obtain ⟨t352, A2720, H⟩ := H
                replace H : (if t351 = (wrap64 ((wrap64 (t352 + a1_1)) - a1_0)) then ((region_Right.f k t313).bind fun t353 => (some t353)) else (some false)) = some r := H
                have A272 := Aside0.mk A2720
                clear A2720
                by_cases c273 : t351 = (wrap64 ((wrap64 (t352 + a1_1)) - a1_0))
                · rw [if_pos c273] at H
                  have c273b0 : (t351 == (wrap64 ((wrap64 (t352 + a1_1)) - a1_0))) = true := beq_iff_eq.mpr c273
                  have c273b1 : (t351 != (wrap64 ((wrap64 (t352 + a1_1)) - a1_0))) = false := bne_eq_false_iff_eq.mpr c273
                  clear c273
                  replace H := Option.bind_eq_some_iff.mp H
                  obtain ⟨t353, A2740, H⟩ := H
                  replace H : (some t353) = some r := H
                  have A274 := Aside0.mk A2740
                  clear A2740
                  obtain rfl := Option.some.inj H
                  go_enter Try.func6, Try.ntmps6
                  try go_wp2_with (first | ((with_reducible refine gate_dst (N := 4) rfl ?_); (try (refine gate_guard (by rfl) ?_; dsimp only)); refine box_event ?hg (N := 4) ?hd (cs := #[.int .i64 a1_0, .int .i64 a1_1, .int .i64 a1_2, .int .i64 a1_3, .int .i64 a1_4, .bool a1_5]) (t := 25) ?hr ?_; (case hd => rfl); (case hg => rfl); (case hr => first | (go_simp; done) | (go_simp; rfl)); intro gb311 hg w275 hbox hb; have n0_ := Aside0.mk (below_step (by repeat (first | (with_reducible first | exact HB.out | apply below_alloc | apply pw_below_drewN | apply below_drew1) | exact HB.out)) hb); have n1_ := Aside0.mk (hbox); have n2_ := Aside0.mk ((by rw [hg]; exact (below_size (by repeat (first | (with_reducible first | exact HB.out | apply below_alloc | apply pw_below_drewN | apply below_drew1) | exact HB.out))) : w.heap.size ≤ gb311)); have n3_ := Aside0.mk ((by rw [hg]; exact (below_size (by repeat (first | (with_reducible first | exact HB.out | apply below_alloc | apply pw_below_drewN | apply below_drew1) | exact HB.out))) : w.heap.size ≤ gb311)); clear HB; have HB := n0_; have BK311 := n1_; have GW311 := n2_; have GE311 := n3_; clear n0_ n1_ n2_ n3_; clear hb hbox hg) | ((with_reducible refine gate_callee (f := 10) rfl ?_); refine goesL_ (some 15) rfl rfl Try.func10 (by kernel_rfl) rfl #[] rfl (by (try simp only [List.map_toArray, List.map_cons, List.map_nil]); first | done | rfl | (simp only [List.length_drop, List.length_take]; rfl)) ?_; (with_reducible refine (millpondlaw07_works.calls k  true _ A4.out).mono ?_); rintro e w276 ⟨rfl, hb⟩; refine ⟨_, rfl, ?_⟩; have n0_ := Aside0.mk (blk_below (g := gb311) (o := .cells #[.int .i64 a1_0, .int .i64 a1_1, .int .i64 a1_2, .int .i64 a1_3, .int .i64 a1_4, .bool a1_5] 25 (0, 0)) (by (with_reducible repeat (first | refine blk_drewN ?_ _ | refine blk_drew ?_ | refine blk_alloc ?_ _)); exact BK311.out) hb); have n1_ := Aside0.mk (below_step (by repeat (first | (with_reducible first | exact HB.out | apply below_alloc | apply pw_below_drewN | apply below_drew1 | refine below_set ?_ GE311.out) | exact HB.out)) hb); clear BK311; clear HB; have BK311 := n0_; have HB := n1_; clear n0_ n1_; (try clear hb); (try clear hb2); (try clear hk); (try clear hi); have hcz277_0 : w276.cell? ⟨gb311, 0, none⟩ = some (.int .i64 a1_0) := (blk_cell BK311.out 0).trans rfl; have hcz277_1 : w276.cell? ⟨gb311, 1, none⟩ = some (.int .i64 a1_1) := (blk_cell BK311.out 1).trans rfl; have hcz277_2 : w276.cell? ⟨gb311, 2, none⟩ = some (.int .i64 a1_2) := (blk_cell BK311.out 2).trans rfl; have hcz277_3 : w276.cell? ⟨gb311, 3, none⟩ = some (.int .i64 a1_3) := (blk_cell BK311.out 3).trans rfl; have hcz277_4 : w276.cell? ⟨gb311, 4, none⟩ = some (.int .i64 a1_4) := (blk_cell BK311.out 4).trans rfl; have hcz277_5 : w276.cell? ⟨gb311, 5, none⟩ = some (.bool a1_5) := (blk_cell BK311.out 5).trans rfl; have hfz277_0 := blk_frozen BK311.out 0; have hfz277_1 := blk_frozen BK311.out 1; have hfz277_2 := blk_frozen BK311.out 2; have hfz277_3 := blk_frozen BK311.out 3; have hfz277_4 := blk_frozen BK311.out 4; have hfz277_5 := blk_frozen BK311.out 5) | ((with_reducible refine gate_callee (f := 11) rfl ?_); refine goesL_ (some 25) rfl rfl Try.func11 (by kernel_rfl) rfl #[.slice A0 l0.length c0, .agg #[.int .i64 a1_0, .int .i64 a1_1, .int .i64 a1_2, .int .i64 a1_3, .int .i64 a1_4, .bool a1_5]] rfl (by (try simp only [List.map_toArray, List.map_cons, List.map_nil]); first | done | rfl | (simp only [List.length_drop, List.length_take]; rfl)) ?_; (with_reducible refine (region_Add.calls _ _ l0 a1_0 a1_1 a1_2 a1_3 a1_4 a1_5 t313 t316 _ ?side1 ?side2 A9.out).mono ?_); (case side1 => repeat (first | exact (Kd.C_below HR0.out HB.out) | (with_reducible refine Kd.C_alloc ?_ _) | (with_reducible refine Kd.C_drewN ?_ _) | (with_reducible refine Kd.C_drew ?_))); (case side2 => exact HC0.out); rintro e w278 ⟨v314, rfl, ho0, hb⟩; refine ⟨_, rfl, ?_⟩; have n0_ := Aside0.mk (Kd.R_lower (Kd.R_newB ho0 (g := gb311) (o := .cells #[.int .i64 a1_0, .int .i64 a1_1, .int .i64 a1_2, .int .i64 a1_3, .int .i64 a1_4, .bool a1_5] 25 (0, 0)) (by (with_reducible repeat (first | refine blk_drewN ?_ _ | refine blk_drew ?_ | refine blk_alloc ?_ _)); exact BK311.out)) (below_size (by repeat (first | (with_reducible first | exact HB.out | apply below_alloc | apply pw_below_drewN | apply below_drew1 | refine below_set ?_ GE311.out) | exact HB.out)))); have n1_ := Aside0.mk (blk_below (g := gb311) (o := .cells #[.int .i64 a1_0, .int .i64 a1_1, .int .i64 a1_2, .int .i64 a1_3, .int .i64 a1_4, .bool a1_5] 25 (0, 0)) (by (with_reducible repeat (first | refine blk_drewN ?_ _ | refine blk_drew ?_ | refine blk_alloc ?_ _)); exact BK311.out) hb); have n2_ := Aside0.mk (below_step (by repeat (first | (with_reducible first | exact HB.out | apply below_alloc | apply pw_below_drewN | apply below_drew1 | refine below_set ?_ GE311.out) | exact HB.out)) hb); clear BK311; clear HB; have HO315 := n0_; have BK311 := n1_; have HB := n2_; clear n0_ n1_ n2_; (try clear hb); (try clear hb2); (try clear hk); (try clear hi); (try clear ho0); obtain ⟨Ao279, co279, eo279⟩ := Kd.R_slice HO315.out; subst eo279) | ((with_reducible refine gate_callee (f := 13) rfl ?_); refine goesL_ (some 39) rfl rfl Try.func13 (by kernel_rfl) rfl #[.slice Ao279 t313.length co279, .int .i64 a2] rfl (by (try simp only [List.map_toArray, List.map_cons, List.map_nil]); first | done | rfl | (simp only [List.length_drop, List.length_take]; rfl)) ?_; (with_reducible refine (region_Find.calls _ _ t313 a2 t317 t318 t319 t320 t321 t322 t323 _ ?side1 ?side2 A11.out).mono ?_); (case side1 => repeat (first | exact (Kd.R_reads' HO315.out).2.2 | (with_reducible refine Kd.C_alloc ?_ _) | (with_reducible refine Kd.C_drewN ?_ _) | (with_reducible refine Kd.C_drew ?_))); (case side2 => exact (Kd.R_reads' HO315.out).2.1); rintro e w280 ⟨rfl, hb⟩; refine ⟨_, rfl, ?_⟩; have n0_ := Aside0.mk (Kd.R_below (by (with_reducible repeat (first | apply Kd.R_alloc | apply Kd.R_drewN | apply Kd.R_drew)); exact HO315.out) hb); have n1_ := Aside0.mk (blk_below (g := gb311) (o := .cells #[.int .i64 a1_0, .int .i64 a1_1, .int .i64 a1_2, .int .i64 a1_3, .int .i64 a1_4, .bool a1_5] 25 (0, 0)) (by (with_reducible repeat (first | refine blk_drewN ?_ _ | refine blk_drew ?_ | refine blk_alloc ?_ _)); exact BK311.out) hb); have n2_ := Aside0.mk (below_step (by repeat (first | (with_reducible first | exact HB.out | apply below_alloc | apply pw_below_drewN | apply below_drew1 | refine below_set ?_ GE311.out) | exact HB.out)) hb); clear HO315; clear BK311; clear HB; have HO315 := n0_; have BK311 := n1_; have HB := n2_; clear n0_ n1_ n2_; (try clear hb); (try clear hb2); (try clear hk); (try clear hi)) | ((with_reducible refine gate_dst (N := 10) rfl ?_); (try (refine gate_guard (by rfl) ?_; dsimp only)); refine box_event ?hg (N := 10) ?hd (cs := #[.int .i64 0, .int .i64 0, .int .i64 0, .int .i64 0, .int .i64 0, .bool false]) (t := 25) ?hr ?_; (case hd => rfl); (case hg => rfl); (case hr => first | (go_simp; done) | (go_simp; rfl)); intro gb324 hg w281 hbox hb; have n0_ := Aside0.mk (Kd.R_below (Kd.R_elderB (by (with_reducible repeat (first | apply Kd.R_alloc | apply Kd.R_drewN | apply Kd.R_drew)); exact HO315.out) gb324 (Nat.le_of_eq hg.symm)) hb); have n1_ := Aside0.mk (blk_below (g := gb311) (o := .cells #[.int .i64 a1_0, .int .i64 a1_1, .int .i64 a1_2, .int .i64 a1_3, .int .i64 a1_4, .bool a1_5] 25 (0, 0)) (by (with_reducible repeat (first | refine blk_drewN ?_ _ | refine blk_drew ?_ | refine blk_alloc ?_ _)); exact BK311.out) hb); have n2_ := Aside0.mk (below_step (by repeat (first | (with_reducible first | exact HB.out | apply below_alloc | apply pw_below_drewN | apply below_drew1 | refine below_set ?_ GE311.out) | exact HB.out)) hb); have n3_ := Aside0.mk (hbox); have n4_ := Aside0.mk ((by rw [hg]; exact (below_size (by repeat (first | (with_reducible first | exact HB.out | apply below_alloc | apply pw_below_drewN | apply below_drew1 | refine below_set ?_ GE311.out) | exact HB.out))) : w.heap.size ≤ gb324)); have n5_ := Aside0.mk ((by rw [hg]; exact (below_size (by repeat (first | (with_reducible first | exact HB.out | apply below_alloc | apply pw_below_drewN | apply below_drew1 | refine below_set ?_ GE311.out) | exact HB.out))) : w.heap.size ≤ gb324)); have n6_ := Aside0.mk ((by rw [hg]; exact Nat.ne_of_lt (blk_lt (g := gb311) (o := .cells #[.int .i64 a1_0, .int .i64 a1_1, .int .i64 a1_2, .int .i64 a1_3, .int .i64 a1_4, .bool a1_5] 25 (0, 0)) (by (with_reducible repeat (first | refine blk_drewN ?_ _ | refine blk_drew ?_ | refine blk_alloc ?_ _)); exact BK311.out)) : gb311 ≠ gb324)); have n7_ := Aside0.mk ((by rw [hg]; exact Nat.ne_of_gt (blk_lt (g := gb311) (o := .cells #[.int .i64 a1_0, .int .i64 a1_1, .int .i64 a1_2, .int .i64 a1_3, .int .i64 a1_4, .bool a1_5] 25 (0, 0)) (by (with_reducible repeat (first | refine blk_drewN ?_ _ | refine blk_drew ?_ | refine blk_alloc ?_ _)); exact BK311.out)) : gb324 ≠ gb311)); clear HO315; clear BK311; clear HB; have HO315 := n0_; have BK311 := n1_; have HB := n2_; have BK324 := n3_; have GW324 := n4_; have GE324 := n5_; have NB311_324 := n6_; have NB324_311 := n7_; clear n0_ n1_ n2_ n3_ n4_ n5_ n6_ n7_; clear hb hbox hg; have hnb282 := NB324_311.out; have hnc282 := NB311_324.out; have hcz283_0 : w281.cell? ⟨gb324, 0, none⟩ = some (.int .i64 0) := (blk_cell BK324.out 0).trans rfl; have hcz283_1 : w281.cell? ⟨gb324, 1, none⟩ = some (.int .i64 0) := (blk_cell BK324.out 1).trans rfl; have hcz283_2 : w281.cell? ⟨gb324, 2, none⟩ = some (.int .i64 0) := (blk_cell BK324.out 2).trans rfl; have hcz283_3 : w281.cell? ⟨gb324, 3, none⟩ = some (.int .i64 0) := (blk_cell BK324.out 3).trans rfl; have hcz283_4 : w281.cell? ⟨gb324, 4, none⟩ = some (.int .i64 0) := (blk_cell BK324.out 4).trans rfl; have hcz283_5 : w281.cell? ⟨gb324, 5, none⟩ = some (.bool false) := (blk_cell BK324.out 5).trans rfl; have hfz283_0 := blk_frozen BK324.out 0; have hfz283_1 := blk_frozen BK324.out 1; have hfz283_2 := blk_frozen BK324.out 2; have hfz283_3 := blk_frozen BK324.out 3; have hfz283_4 := blk_frozen BK324.out 4; have hfz283_5 := blk_frozen BK324.out 5) | ((with_reducible refine gate_callee (f := 13) rfl ?_); refine goesL_ (some 45) rfl rfl Try.func13 (by kernel_rfl) rfl #[.slice A0 l0.length c0, .int .i64 a2] rfl (by (try simp only [List.map_toArray, List.map_cons, List.map_nil]); first | done | rfl | (simp only [List.length_drop, List.length_take]; rfl)) ?_; (with_reducible refine (region_Find.calls _ _ l0 a2 t325 t326 t327 t328 t329 t330 t331 _ ?side1 ?side2 A12.out).mono ?_); (case side1 => exact Kd.C_below HR0.out (by repeat (first | (with_reducible first | exact HB.out | apply below_alloc | apply pw_below_drewN | apply below_drew1 | refine below_set ?_ GE311.out | refine below_set ?_ GE324.out) | exact HB.out))); (case side2 => exact HC0.out); rintro e w284 ⟨rfl, hb⟩; refine ⟨_, rfl, ?_⟩; have n0_ := Aside0.mk (Kd.R_below (by (with_reducible repeat (first | apply Kd.R_alloc | apply Kd.R_drewN | apply Kd.R_drew)); exact (Kd.R_mono (Kd.R_far (p := ⟨gb324, 5, none⟩) (Kd.R_far (p := ⟨gb324, 4, none⟩) (Kd.R_far (p := ⟨gb324, 3, none⟩) (Kd.R_far (p := ⟨gb324, 2, none⟩) (Kd.R_far (p := ⟨gb324, 1, none⟩) (Kd.R_far (p := ⟨gb324, 0, none⟩) (Kd.R_mono HO315.out (fun k_ hk => (⟨hk, hk.2⟩ : _ ∧ k_ ≠ gb324))) (fun _ hk => hk.2) (.int .i64 t317)) (fun _ hk => hk.2) (.int .i64 t318)) (fun _ hk => hk.2) (.int .i64 t319)) (fun _ hk => hk.2) (.int .i64 t320)) (fun _ hk => hk.2) (.int .i64 t321)) (fun _ hk => hk.2) (.bool t322)) (fun _ h_ => h_.1))) hb); have n1_ := Aside0.mk (blk_below (g := gb311) (o := .cells #[.int .i64 a1_0, .int .i64 a1_1, .int .i64 a1_2, .int .i64 a1_3, .int .i64 a1_4, .bool a1_5] 25 (0, 0)) (by (with_reducible repeat (first | refine blk_drewN ?_ _ | refine blk_drew ?_ | refine blk_alloc ?_ _)); refine blk_far ?_ NB311_324.out _; (with_reducible repeat (first | refine blk_drewN ?_ _ | refine blk_drew ?_ | refine blk_alloc ?_ _)); refine blk_far ?_ NB311_324.out _; (with_reducible repeat (first | refine blk_drewN ?_ _ | refine blk_drew ?_ | refine blk_alloc ?_ _)); refine blk_far ?_ NB311_324.out _; (with_reducible repeat (first | refine blk_drewN ?_ _ | refine blk_drew ?_ | refine blk_alloc ?_ _)); refine blk_far ?_ NB311_324.out _; (with_reducible repeat (first | refine blk_drewN ?_ _ | refine blk_drew ?_ | refine blk_alloc ?_ _)); refine blk_far ?_ NB311_324.out _; (with_reducible repeat (first | refine blk_drewN ?_ _ | refine blk_drew ?_ | refine blk_alloc ?_ _)); refine blk_far ?_ NB311_324.out _; (with_reducible repeat (first | refine blk_drewN ?_ _ | refine blk_drew ?_ | refine blk_alloc ?_ _)); exact BK311.out) hb); have n2_ := Aside0.mk (blk_below (g := gb324) (o := .cells #[.int .i64 t317, .int .i64 t318, .int .i64 t319, .int .i64 t320, .int .i64 t321, .bool t322] 25 (0, 0)) (by (with_reducible repeat (first | refine blk_drewN ?_ _ | refine blk_drew ?_ | refine blk_alloc ?_ _)); refine blk_put (cs := #[.int .i64 t317, .int .i64 t318, .int .i64 t319, .int .i64 t320, .int .i64 t321, .bool false]) ?_ 5 _ rfl; (with_reducible repeat (first | refine blk_drewN ?_ _ | refine blk_drew ?_ | refine blk_alloc ?_ _)); refine blk_put (cs := #[.int .i64 t317, .int .i64 t318, .int .i64 t319, .int .i64 t320, .int .i64 0, .bool false]) ?_ 4 _ rfl; (with_reducible repeat (first | refine blk_drewN ?_ _ | refine blk_drew ?_ | refine blk_alloc ?_ _)); refine blk_put (cs := #[.int .i64 t317, .int .i64 t318, .int .i64 t319, .int .i64 0, .int .i64 0, .bool false]) ?_ 3 _ rfl; (with_reducible repeat (first | refine blk_drewN ?_ _ | refine blk_drew ?_ | refine blk_alloc ?_ _)); refine blk_put (cs := #[.int .i64 t317, .int .i64 t318, .int .i64 0, .int .i64 0, .int .i64 0, .bool false]) ?_ 2 _ rfl; (with_reducible repeat (first | refine blk_drewN ?_ _ | refine blk_drew ?_ | refine blk_alloc ?_ _)); refine blk_put (cs := #[.int .i64 t317, .int .i64 0, .int .i64 0, .int .i64 0, .int .i64 0, .bool false]) ?_ 1 _ rfl; (with_reducible repeat (first | refine blk_drewN ?_ _ | refine blk_drew ?_ | refine blk_alloc ?_ _)); refine blk_put (cs := #[.int .i64 0, .int .i64 0, .int .i64 0, .int .i64 0, .int .i64 0, .bool false]) ?_ 0 _ rfl; (with_reducible repeat (first | refine blk_drewN ?_ _ | refine blk_drew ?_ | refine blk_alloc ?_ _)); exact BK324.out) hb); have n3_ := Aside0.mk (below_step (by repeat (first | (with_reducible first | exact HB.out | apply below_alloc | apply pw_below_drewN | apply below_drew1 | refine below_set ?_ GE311.out | refine below_set ?_ GE324.out) | exact HB.out)) hb); clear HO315; clear BK311; clear BK324; clear HB; have HO315 := n0_; have BK311 := n1_; have BK324 := n2_; have HB := n3_; clear n0_ n1_ n2_ n3_; (try clear hb); (try clear hb2); (try clear hk); (try clear hi)) | ((with_reducible refine gate_dst (N := 12) rfl ?_); (try (refine gate_guard (by rfl) ?_; dsimp only)); refine box_event ?hg (N := 12) ?hd (cs := #[.int .i64 0, .int .i64 0, .int .i64 0, .int .i64 0, .int .i64 0, .bool false]) (t := 25) ?hr ?_; (case hd => rfl); (case hg => rfl); (case hr => first | (go_simp; done) | (go_simp; rfl)); intro gb332 hg w285 hbox hb; have n0_ := Aside0.mk (Kd.R_below (Kd.R_elderB (by (with_reducible repeat (first | apply Kd.R_alloc | apply Kd.R_drewN | apply Kd.R_drew)); exact HO315.out) gb332 (Nat.le_of_eq hg.symm)) hb); have n1_ := Aside0.mk (blk_below (g := gb311) (o := .cells #[.int .i64 a1_0, .int .i64 a1_1, .int .i64 a1_2, .int .i64 a1_3, .int .i64 a1_4, .bool a1_5] 25 (0, 0)) (by (with_reducible repeat (first | refine blk_drewN ?_ _ | refine blk_drew ?_ | refine blk_alloc ?_ _)); exact BK311.out) hb); have n2_ := Aside0.mk (blk_below (g := gb324) (o := .cells #[.int .i64 t317, .int .i64 t318, .int .i64 t319, .int .i64 t320, .int .i64 t321, .bool t322] 25 (0, 0)) (by (with_reducible repeat (first | refine blk_drewN ?_ _ | refine blk_drew ?_ | refine blk_alloc ?_ _)); exact BK324.out) hb); have n3_ := Aside0.mk (below_step (by repeat (first | (with_reducible first | exact HB.out | apply below_alloc | apply pw_below_drewN | apply below_drew1 | refine below_set ?_ GE311.out | refine below_set ?_ GE324.out) | exact HB.out)) hb); have n4_ := Aside0.mk (hbox); have n5_ := Aside0.mk ((by rw [hg]; exact (below_size (by repeat (first | (with_reducible first | exact HB.out | apply below_alloc | apply pw_below_drewN | apply below_drew1 | refine below_set ?_ GE311.out | refine below_set ?_ GE324.out) | exact HB.out))) : w.heap.size ≤ gb332)); have n6_ := Aside0.mk ((by rw [hg]; exact (below_size (by repeat (first | (with_reducible first | exact HB.out | apply below_alloc | apply pw_below_drewN | apply below_drew1 | refine below_set ?_ GE311.out | refine below_set ?_ GE324.out) | exact HB.out))) : w.heap.size ≤ gb332)); have n7_ := Aside0.mk ((by rw [hg]; exact Nat.ne_of_lt (blk_lt (g := gb311) (o := .cells #[.int .i64 a1_0, .int .i64 a1_1, .int .i64 a1_2, .int .i64 a1_3, .int .i64 a1_4, .bool a1_5] 25 (0, 0)) (by (with_reducible repeat (first | refine blk_drewN ?_ _ | refine blk_drew ?_ | refine blk_alloc ?_ _)); exact BK311.out)) : gb311 ≠ gb332)); have n8_ := Aside0.mk ((by rw [hg]; exact Nat.ne_of_gt (blk_lt (g := gb311) (o := .cells #[.int .i64 a1_0, .int .i64 a1_1, .int .i64 a1_2, .int .i64 a1_3, .int .i64 a1_4, .bool a1_5] 25 (0, 0)) (by (with_reducible repeat (first | refine blk_drewN ?_ _ | refine blk_drew ?_ | refine blk_alloc ?_ _)); exact BK311.out)) : gb332 ≠ gb311)); have n9_ := Aside0.mk ((by rw [hg]; exact Nat.ne_of_lt (blk_lt (g := gb324) (o := .cells #[.int .i64 t317, .int .i64 t318, .int .i64 t319, .int .i64 t320, .int .i64 t321, .bool t322] 25 (0, 0)) (by (with_reducible repeat (first | refine blk_drewN ?_ _ | refine blk_drew ?_ | refine blk_alloc ?_ _)); exact BK324.out)) : gb324 ≠ gb332)); have n10_ := Aside0.mk ((by rw [hg]; exact Nat.ne_of_gt (blk_lt (g := gb324) (o := .cells #[.int .i64 t317, .int .i64 t318, .int .i64 t319, .int .i64 t320, .int .i64 t321, .bool t322] 25 (0, 0)) (by (with_reducible repeat (first | refine blk_drewN ?_ _ | refine blk_drew ?_ | refine blk_alloc ?_ _)); exact BK324.out)) : gb332 ≠ gb324)); clear HO315; clear BK311; clear BK324; clear HB; have HO315 := n0_; have BK311 := n1_; have BK324 := n2_; have HB := n3_; have BK332 := n4_; have GW332 := n5_; have GE332 := n6_; have NB311_332 := n7_; have NB332_311 := n8_; have NB324_332 := n9_; have NB332_324 := n10_; clear n0_ n1_ n2_ n3_ n4_ n5_ n6_ n7_ n8_ n9_ n10_; clear hb hbox hg; have hnb286 := NB332_311.out; have hnc286 := NB311_332.out; have hnb287 := NB332_324.out; have hnc287 := NB324_332.out; have hcz288_0 : w285.cell? ⟨gb332, 0, none⟩ = some (.int .i64 0) := (blk_cell BK332.out 0).trans rfl; have hcz288_1 : w285.cell? ⟨gb332, 1, none⟩ = some (.int .i64 0) := (blk_cell BK332.out 1).trans rfl; have hcz288_2 : w285.cell? ⟨gb332, 2, none⟩ = some (.int .i64 0) := (blk_cell BK332.out 2).trans rfl; have hcz288_3 : w285.cell? ⟨gb332, 3, none⟩ = some (.int .i64 0) := (blk_cell BK332.out 3).trans rfl; have hcz288_4 : w285.cell? ⟨gb332, 4, none⟩ = some (.int .i64 0) := (blk_cell BK332.out 4).trans rfl; have hcz288_5 : w285.cell? ⟨gb332, 5, none⟩ = some (.bool false) := (blk_cell BK332.out 5).trans rfl; have hfz288_0 := blk_frozen BK332.out 0; have hfz288_1 := blk_frozen BK332.out 1; have hfz288_2 := blk_frozen BK332.out 2; have hfz288_3 := blk_frozen BK332.out 3; have hfz288_4 := blk_frozen BK332.out 4; have hfz288_5 := blk_frozen BK332.out 5; have hcz289_0 : w285.cell? ⟨gb311, 0, none⟩ = some (.int .i64 a1_0) := (blk_cell BK311.out 0).trans rfl; have hcz289_1 : w285.cell? ⟨gb311, 1, none⟩ = some (.int .i64 a1_1) := (blk_cell BK311.out 1).trans rfl; have hcz289_2 : w285.cell? ⟨gb311, 2, none⟩ = some (.int .i64 a1_2) := (blk_cell BK311.out 2).trans rfl; have hcz289_3 : w285.cell? ⟨gb311, 3, none⟩ = some (.int .i64 a1_3) := (blk_cell BK311.out 3).trans rfl; have hcz289_4 : w285.cell? ⟨gb311, 4, none⟩ = some (.int .i64 a1_4) := (blk_cell BK311.out 4).trans rfl; have hcz289_5 : w285.cell? ⟨gb311, 5, none⟩ = some (.bool a1_5) := (blk_cell BK311.out 5).trans rfl; have hfz289_0 := blk_frozen BK311.out 0; have hfz289_1 := blk_frozen BK311.out 1; have hfz289_2 := blk_frozen BK311.out 2; have hfz289_3 := blk_frozen BK311.out 3; have hfz289_4 := blk_frozen BK311.out 4; have hfz289_5 := blk_frozen BK311.out 5; have hcz290_0 : w285.cell? ⟨gb324, 0, none⟩ = some (.int .i64 t317) := (blk_cell BK324.out 0).trans rfl; have hcz290_1 : w285.cell? ⟨gb324, 1, none⟩ = some (.int .i64 t318) := (blk_cell BK324.out 1).trans rfl; have hcz290_2 : w285.cell? ⟨gb324, 2, none⟩ = some (.int .i64 t319) := (blk_cell BK324.out 2).trans rfl; have hcz290_3 : w285.cell? ⟨gb324, 3, none⟩ = some (.int .i64 t320) := (blk_cell BK324.out 3).trans rfl; have hcz290_4 : w285.cell? ⟨gb324, 4, none⟩ = some (.int .i64 t321) := (blk_cell BK324.out 4).trans rfl; have hcz290_5 : w285.cell? ⟨gb324, 5, none⟩ = some (.bool t322) := (blk_cell BK324.out 5).trans rfl; have hfz290_0 := blk_frozen BK324.out 0; have hfz290_1 := blk_frozen BK324.out 1; have hfz290_2 := blk_frozen BK324.out 2; have hfz290_3 := blk_frozen BK324.out 3; have hfz290_4 := blk_frozen BK324.out 4; have hfz290_5 := blk_frozen BK324.out 5) | ((with_reducible refine gate_callee (f := 24) rfl ?_); refine goesL_ (some 81) rfl rfl Try.func24 (by kernel_rfl) rfl #[.slice Ao279 t313.length co279, .int .i64 a1_0, .int .i64 a1_1] rfl (by (try simp only [List.map_toArray, List.map_cons, List.map_nil]); first | done | rfl | (simp only [List.length_drop, List.length_take]; rfl)) ?_; (with_reducible refine (region_Cut.calls _ _ t313 a1_0 a1_1 t347 _ ?side1 ?side2 A268.out).mono ?_); (case side1 => refine (Kd.R_reads' (e := 25) (base := w.heap.size) (ok := fun k_ => (((True ∧ k_ ≠ gb311) ∧ k_ ≠ gb324) ∧ k_ ≠ gb332)) (n := t313.length) (c := co279) ?_).2.2; exact (by (with_reducible repeat (first | apply Kd.R_alloc | apply Kd.R_drewN | apply Kd.R_drew)); exact (Kd.R_mono (Kd.R_far (p := ⟨gb332, 5, none⟩) (Kd.R_far (p := ⟨gb332, 4, none⟩) (Kd.R_far (p := ⟨gb332, 3, none⟩) (Kd.R_far (p := ⟨gb332, 2, none⟩) (Kd.R_far (p := ⟨gb332, 1, none⟩) (Kd.R_far (p := ⟨gb332, 0, none⟩) (Kd.R_mono HO315.out (fun k_ hk => (⟨hk, hk.2⟩ : _ ∧ k_ ≠ gb332))) (fun _ hk => hk.2) (.int .i64 t325)) (fun _ hk => hk.2) (.int .i64 t326)) (fun _ hk => hk.2) (.int .i64 t327)) (fun _ hk => hk.2) (.int .i64 t328)) (fun _ hk => hk.2) (.int .i64 t329)) (fun _ hk => hk.2) (.bool t330)) (fun _ h_ => h_.1)))); (case side2 => exact (Kd.R_reads' HO315.out).2.1); rintro e w291 ⟨v348, rfl, ho0, hb⟩; refine ⟨_, rfl, ?_⟩; have n0_ := Aside0.mk (Kd.R_elder' (by (with_reducible repeat (first | apply Kd.R_alloc | apply Kd.R_drewN | apply Kd.R_drew)); exact (Kd.R_mono (Kd.R_far (p := ⟨gb332, 5, none⟩) (Kd.R_far (p := ⟨gb332, 4, none⟩) (Kd.R_far (p := ⟨gb332, 3, none⟩) (Kd.R_far (p := ⟨gb332, 2, none⟩) (Kd.R_far (p := ⟨gb332, 1, none⟩) (Kd.R_far (p := ⟨gb332, 0, none⟩) (Kd.R_mono HO315.out (fun k_ hk => (⟨hk, hk.2⟩ : _ ∧ k_ ≠ gb332))) (fun _ hk => hk.2) (.int .i64 t325)) (fun _ hk => hk.2) (.int .i64 t326)) (fun _ hk => hk.2) (.int .i64 t327)) (fun _ hk => hk.2) (.int .i64 t328)) (fun _ hk => hk.2) (.int .i64 t329)) (fun _ hk => hk.2) (.bool t330)) (fun _ h_ => h_.1))) (Kd.R_base ho0) hb); have n1_ := Aside0.mk (Kd.R_lower (Kd.R_newB (Kd.R_newB (Kd.R_newB (Kd.R_new' ho0 (Kd.R_lt (by (with_reducible repeat (first | apply Kd.R_alloc | apply Kd.R_drewN | apply Kd.R_drew)); exact (Kd.R_mono (Kd.R_far (p := ⟨gb332, 5, none⟩) (Kd.R_far (p := ⟨gb332, 4, none⟩) (Kd.R_far (p := ⟨gb332, 3, none⟩) (Kd.R_far (p := ⟨gb332, 2, none⟩) (Kd.R_far (p := ⟨gb332, 1, none⟩) (Kd.R_far (p := ⟨gb332, 0, none⟩) (Kd.R_mono HO315.out (fun k_ hk => (⟨hk, hk.2⟩ : _ ∧ k_ ≠ gb332))) (fun _ hk => hk.2) (.int .i64 t325)) (fun _ hk => hk.2) (.int .i64 t326)) (fun _ hk => hk.2) (.int .i64 t327)) (fun _ hk => hk.2) (.int .i64 t328)) (fun _ hk => hk.2) (.int .i64 t329)) (fun _ hk => hk.2) (.bool t330)) (fun _ h_ => h_.1))))) (g := gb311) (o := .cells #[.int .i64 a1_0, .int .i64 a1_1, .int .i64 a1_2, .int .i64 a1_3, .int .i64 a1_4, .bool a1_5] 25 (0, 0)) (by (with_reducible repeat (first | refine blk_drewN ?_ _ | refine blk_drew ?_ | refine blk_alloc ?_ _)); refine blk_far ?_ NB311_332.out _; (with_reducible repeat (first | refine blk_drewN ?_ _ | refine blk_drew ?_ | refine blk_alloc ?_ _)); refine blk_far ?_ NB311_332.out _; (with_reducible repeat (first | refine blk_drewN ?_ _ | refine blk_drew ?_ | refine blk_alloc ?_ _)); refine blk_far ?_ NB311_332.out _; (with_reducible repeat (first | refine blk_drewN ?_ _ | refine blk_drew ?_ | refine blk_alloc ?_ _)); refine blk_far ?_ NB311_332.out _; (with_reducible repeat (first | refine blk_drewN ?_ _ | refine blk_drew ?_ | refine blk_alloc ?_ _)); refine blk_far ?_ NB311_332.out _; (with_reducible repeat (first | refine blk_drewN ?_ _ | refine blk_drew ?_ | refine blk_alloc ?_ _)); refine blk_far ?_ NB311_332.out _; (with_reducible repeat (first | refine blk_drewN ?_ _ | refine blk_drew ?_ | refine blk_alloc ?_ _)); exact BK311.out)) (g := gb324) (o := .cells #[.int .i64 t317, .int .i64 t318, .int .i64 t319, .int .i64 t320, .int .i64 t321, .bool t322] 25 (0, 0)) (by (with_reducible repeat (first | refine blk_drewN ?_ _ | refine blk_drew ?_ | refine blk_alloc ?_ _)); refine blk_far ?_ NB324_332.out _; (with_reducible repeat (first | refine blk_drewN ?_ _ | refine blk_drew ?_ | refine blk_alloc ?_ _)); refine blk_far ?_ NB324_332.out _; (with_reducible repeat (first | refine blk_drewN ?_ _ | refine blk_drew ?_ | refine blk_alloc ?_ _)); refine blk_far ?_ NB324_332.out _; (with_reducible repeat (first | refine blk_drewN ?_ _ | refine blk_drew ?_ | refine blk_alloc ?_ _)); refine blk_far ?_ NB324_332.out _; (with_reducible repeat (first | refine blk_drewN ?_ _ | refine blk_drew ?_ | refine blk_alloc ?_ _)); refine blk_far ?_ NB324_332.out _; (with_reducible repeat (first | refine blk_drewN ?_ _ | refine blk_drew ?_ | refine blk_alloc ?_ _)); refine blk_far ?_ NB324_332.out _; (with_reducible repeat (first | refine blk_drewN ?_ _ | refine blk_drew ?_ | refine blk_alloc ?_ _)); exact BK324.out)) (g := gb332) (o := .cells #[.int .i64 t325, .int .i64 t326, .int .i64 t327, .int .i64 t328, .int .i64 t329, .bool t330] 25 (0, 0)) (by (with_reducible repeat (first | refine blk_drewN ?_ _ | refine blk_drew ?_ | refine blk_alloc ?_ _)); refine blk_put (cs := #[.int .i64 t325, .int .i64 t326, .int .i64 t327, .int .i64 t328, .int .i64 t329, .bool false]) ?_ 5 _ rfl; (with_reducible repeat (first | refine blk_drewN ?_ _ | refine blk_drew ?_ | refine blk_alloc ?_ _)); refine blk_put (cs := #[.int .i64 t325, .int .i64 t326, .int .i64 t327, .int .i64 t328, .int .i64 0, .bool false]) ?_ 4 _ rfl; (with_reducible repeat (first | refine blk_drewN ?_ _ | refine blk_drew ?_ | refine blk_alloc ?_ _)); refine blk_put (cs := #[.int .i64 t325, .int .i64 t326, .int .i64 t327, .int .i64 0, .int .i64 0, .bool false]) ?_ 3 _ rfl; (with_reducible repeat (first | refine blk_drewN ?_ _ | refine blk_drew ?_ | refine blk_alloc ?_ _)); refine blk_put (cs := #[.int .i64 t325, .int .i64 t326, .int .i64 0, .int .i64 0, .int .i64 0, .bool false]) ?_ 2 _ rfl; (with_reducible repeat (first | refine blk_drewN ?_ _ | refine blk_drew ?_ | refine blk_alloc ?_ _)); refine blk_put (cs := #[.int .i64 t325, .int .i64 0, .int .i64 0, .int .i64 0, .int .i64 0, .bool false]) ?_ 1 _ rfl; (with_reducible repeat (first | refine blk_drewN ?_ _ | refine blk_drew ?_ | refine blk_alloc ?_ _)); refine blk_put (cs := #[.int .i64 0, .int .i64 0, .int .i64 0, .int .i64 0, .int .i64 0, .bool false]) ?_ 0 _ rfl; (with_reducible repeat (first | refine blk_drewN ?_ _ | refine blk_drew ?_ | refine blk_alloc ?_ _)); exact BK332.out)) (below_size (by repeat (first | (with_reducible first | exact HB.out | apply below_alloc | apply pw_below_drewN | apply below_drew1 | refine below_set ?_ GE311.out | refine below_set ?_ GE324.out | refine below_set ?_ GE332.out) | exact HB.out)))); have n2_ := Aside0.mk (blk_below (g := gb311) (o := .cells #[.int .i64 a1_0, .int .i64 a1_1, .int .i64 a1_2, .int .i64 a1_3, .int .i64 a1_4, .bool a1_5] 25 (0, 0)) (by (with_reducible repeat (first | refine blk_drewN ?_ _ | refine blk_drew ?_ | refine blk_alloc ?_ _)); refine blk_far ?_ NB311_332.out _; (with_reducible repeat (first | refine blk_drewN ?_ _ | refine blk_drew ?_ | refine blk_alloc ?_ _)); refine blk_far ?_ NB311_332.out _; (with_reducible repeat (first | refine blk_drewN ?_ _ | refine blk_drew ?_ | refine blk_alloc ?_ _)); refine blk_far ?_ NB311_332.out _; (with_reducible repeat (first | refine blk_drewN ?_ _ | refine blk_drew ?_ | refine blk_alloc ?_ _)); refine blk_far ?_ NB311_332.out _; (with_reducible repeat (first | refine blk_drewN ?_ _ | refine blk_drew ?_ | refine blk_alloc ?_ _)); refine blk_far ?_ NB311_332.out _; (with_reducible repeat (first | refine blk_drewN ?_ _ | refine blk_drew ?_ | refine blk_alloc ?_ _)); refine blk_far ?_ NB311_332.out _; (with_reducible repeat (first | refine blk_drewN ?_ _ | refine blk_drew ?_ | refine blk_alloc ?_ _)); exact BK311.out) hb); have n3_ := Aside0.mk (blk_below (g := gb324) (o := .cells #[.int .i64 t317, .int .i64 t318, .int .i64 t319, .int .i64 t320, .int .i64 t321, .bool t322] 25 (0, 0)) (by (with_reducible repeat (first | refine blk_drewN ?_ _ | refine blk_drew ?_ | refine blk_alloc ?_ _)); refine blk_far ?_ NB324_332.out _; (with_reducible repeat (first | refine blk_drewN ?_ _ | refine blk_drew ?_ | refine blk_alloc ?_ _)); refine blk_far ?_ NB324_332.out _; (with_reducible repeat (first | refine blk_drewN ?_ _ | refine blk_drew ?_ | refine blk_alloc ?_ _)); refine blk_far ?_ NB324_332.out _; (with_reducible repeat (first | refine blk_drewN ?_ _ | refine blk_drew ?_ | refine blk_alloc ?_ _)); refine blk_far ?_ NB324_332.out _; (with_reducible repeat (first | refine blk_drewN ?_ _ | refine blk_drew ?_ | refine blk_alloc ?_ _)); refine blk_far ?_ NB324_332.out _; (with_reducible repeat (first | refine blk_drewN ?_ _ | refine blk_drew ?_ | refine blk_alloc ?_ _)); refine blk_far ?_ NB324_332.out _; (with_reducible repeat (first | refine blk_drewN ?_ _ | refine blk_drew ?_ | refine blk_alloc ?_ _)); exact BK324.out) hb); have n4_ := Aside0.mk (blk_below (g := gb332) (o := .cells #[.int .i64 t325, .int .i64 t326, .int .i64 t327, .int .i64 t328, .int .i64 t329, .bool t330] 25 (0, 0)) (by (with_reducible repeat (first | refine blk_drewN ?_ _ | refine blk_drew ?_ | refine blk_alloc ?_ _)); refine blk_put (cs := #[.int .i64 t325, .int .i64 t326, .int .i64 t327, .int .i64 t328, .int .i64 t329, .bool false]) ?_ 5 _ rfl; (with_reducible repeat (first | refine blk_drewN ?_ _ | refine blk_drew ?_ | refine blk_alloc ?_ _)); refine blk_put (cs := #[.int .i64 t325, .int .i64 t326, .int .i64 t327, .int .i64 t328, .int .i64 0, .bool false]) ?_ 4 _ rfl; (with_reducible repeat (first | refine blk_drewN ?_ _ | refine blk_drew ?_ | refine blk_alloc ?_ _)); refine blk_put (cs := #[.int .i64 t325, .int .i64 t326, .int .i64 t327, .int .i64 0, .int .i64 0, .bool false]) ?_ 3 _ rfl; (with_reducible repeat (first | refine blk_drewN ?_ _ | refine blk_drew ?_ | refine blk_alloc ?_ _)); refine blk_put (cs := #[.int .i64 t325, .int .i64 t326, .int .i64 0, .int .i64 0, .int .i64 0, .bool false]) ?_ 2 _ rfl; (with_reducible repeat (first | refine blk_drewN ?_ _ | refine blk_drew ?_ | refine blk_alloc ?_ _)); refine blk_put (cs := #[.int .i64 t325, .int .i64 0, .int .i64 0, .int .i64 0, .int .i64 0, .bool false]) ?_ 1 _ rfl; (with_reducible repeat (first | refine blk_drewN ?_ _ | refine blk_drew ?_ | refine blk_alloc ?_ _)); refine blk_put (cs := #[.int .i64 0, .int .i64 0, .int .i64 0, .int .i64 0, .int .i64 0, .bool false]) ?_ 0 _ rfl; (with_reducible repeat (first | refine blk_drewN ?_ _ | refine blk_drew ?_ | refine blk_alloc ?_ _)); exact BK332.out) hb); have n5_ := Aside0.mk (below_step (by repeat (first | (with_reducible first | exact HB.out | apply below_alloc | apply pw_below_drewN | apply below_drew1 | refine below_set ?_ GE311.out | refine below_set ?_ GE324.out | refine below_set ?_ GE332.out) | exact HB.out)) hb); clear HO315; clear BK311; clear BK324; clear BK332; clear HB; have HO315 := n0_; have HO349 := n1_; have BK311 := n2_; have BK324 := n3_; have BK332 := n4_; have HB := n5_; clear n0_ n1_ n2_ n3_ n4_ n5_; (try clear hb); (try clear hb2); (try clear hk); (try clear hi); (try clear ho0); obtain ⟨Ao292, co292, eo292⟩ := Kd.R_slice HO349.out; subst eo292) | ((with_reducible refine gate_callee (f := 15) rfl ?_); refine goesL_ (some 83) rfl rfl Try.func15 (by kernel_rfl) rfl #[.slice Ao292 t347.length co292, .slice A0 l0.length c0] rfl (by (try simp only [List.map_toArray, List.map_cons, List.map_nil]); first | done | rfl | (simp only [List.length_drop, List.length_take]; rfl)) ?_; (with_reducible refine (millpondref07_Same.calls k _ _ t347 _ _ l0 true _ ?side1 ?side2 ?side3 ?side4 A269.out).mono ?_); (case side1 => repeat (first | exact (Kd.R_reads' HO349.out).2.2 | (with_reducible refine Kd.C_alloc ?_ _) | (with_reducible refine Kd.C_drewN ?_ _) | (with_reducible refine Kd.C_drew ?_))); (case side2 => exact (Kd.R_reads' HO349.out).2.1); (case side3 => repeat (first | exact (Kd.C_below HR0.out HB.out) | (with_reducible refine Kd.C_alloc ?_ _) | (with_reducible refine Kd.C_drewN ?_ _) | (with_reducible refine Kd.C_drew ?_))); (case side4 => exact HC0.out); rintro e w' ⟨rfl, ⟨nd, rfl⟩⟩; refine ⟨_, rfl, ?_⟩))
                  (try (rw [drewN_self w291]; generalize hq_ : World.drewN w291 _ = w291; have n0_ : Aside0 (Kd.R k25 25 w291 w.heap.size (fun k_ => some k_ ≠ (.slice Ao292 t347.length co292 : Value).ownBlock ∧ k_ ≠ gb311 ∧ k_ ≠ gb324 ∧ k_ ≠ gb332) (.slice Ao279 t313.length co279) t313) := ⟨by rw [← hq_]; exact (by (with_reducible repeat (first | apply Kd.R_alloc | apply Kd.R_drewN | apply Kd.R_drew)); exact Kd.R_mono HO315.out (fun _ hk => ⟨hk.2, ⟨hk.1.1.1.2, ⟨hk.1.1.2, hk.1.2⟩⟩⟩))⟩; have n1_ : Aside0 (Kd.R k25 25 w291 w.heap.size (fun k_ => some k_ ≠ (.slice Ao279 t313.length co279 : Value).ownBlock ∧ k_ ≠ gb311 ∧ k_ ≠ gb324 ∧ k_ ≠ gb332) (.slice Ao292 t347.length co292) t347) := ⟨by rw [← hq_]; exact (by (with_reducible repeat (first | apply Kd.R_alloc | apply Kd.R_drewN | apply Kd.R_drew)); exact Kd.R_mono HO349.out (fun _ hk => ⟨hk.1.1.1.2, ⟨hk.1.1.2, ⟨hk.1.2, hk.2⟩⟩⟩))⟩; have n2_ : Aside0 (w291.heap[gb311]? = some (.cells #[.int .i64 a1_0, .int .i64 a1_1, .int .i64 a1_2, .int .i64 a1_3, .int .i64 a1_4, .bool a1_5] 25 (0, 0))) := ⟨by rw [← hq_]; exact (by (with_reducible repeat (first | refine blk_drewN ?_ _ | refine blk_drew ?_ | refine blk_alloc ?_ _)); exact BK311.out)⟩; have n3_ : Aside0 (w291.heap[gb324]? = some (.cells #[.int .i64 t317, .int .i64 t318, .int .i64 t319, .int .i64 t320, .int .i64 t321, .bool t322] 25 (0, 0))) := ⟨by rw [← hq_]; exact (by (with_reducible repeat (first | refine blk_drewN ?_ _ | refine blk_drew ?_ | refine blk_alloc ?_ _)); exact BK324.out)⟩; have n4_ : Aside0 (w291.heap[gb332]? = some (.cells #[.int .i64 t325, .int .i64 t326, .int .i64 t327, .int .i64 t328, .int .i64 t329, .bool t330] 25 (0, 0))) := ⟨by rw [← hq_]; exact (by (with_reducible repeat (first | refine blk_drewN ?_ _ | refine blk_drew ?_ | refine blk_alloc ?_ _)); exact BK332.out)⟩; have n5_ : Aside0 (Below w.heap.size w w291) := ⟨by rw [← hq_]; exact (by repeat (first | (with_reducible first | exact HB.out | apply below_alloc | apply pw_below_drewN | apply below_drew1 | refine below_set ?_ GE311.out | refine below_set ?_ GE324.out | refine below_set ?_ GE332.out) | exact HB.out))⟩; clear HO315 HO349 BK311 BK324 BK332 HB hq_; have HO315 := n0_; have HO349 := n1_; have BK311 := n2_; have BK324 := n3_; have BK332 := n4_; have HB := n5_; clear n0_ n1_ n2_ n3_ n4_ n5_))
                  have n0_ := Aside0.mk (Kd.R_drew HO315.out)
                  have n1_ := Aside0.mk (Kd.R_drew HO349.out)
                  have n2_ := Aside0.mk (blk_drew BK311.out)
                  have n3_ := Aside0.mk (blk_drew BK324.out)
                  have n4_ := Aside0.mk (blk_drew BK332.out)
                  have n5_ := Aside0.mk (below_drew1 HB.out)
                  clear HO315
                  clear HO349
                  clear BK311
                  clear BK324
                  clear BK332
                  clear HB
                  have HO315 := n0_
                  have HO349 := n1_
                  have BK311 := n2_
                  have BK324 := n3_
                  have BK332 := n4_
                  have HB := n5_
                  clear n0_ n1_ n2_ n3_ n4_ n5_
                  refine start_ (n := 22) (S := fun w' => w'.cell? ⟨gb311, 0, none⟩ = some (.int .i64 a1_0) ∧ w'.cell? ⟨gb311, 1, none⟩ = some (.int .i64 a1_1) ∧ w'.cell? ⟨gb311, 2, none⟩ = some (.int .i64 a1_2) ∧ w'.cell? ⟨gb311, 3, none⟩ = some (.int .i64 a1_3) ∧ w'.cell? ⟨gb311, 4, none⟩ = some (.int .i64 a1_4) ∧ w'.cell? ⟨gb311, 5, none⟩ = some (.bool a1_5)) (ds := []) #[false, false, false, false, false, false, false, false, false, false, false, false, false, false, false, false, false, false, false, false, false, false] (by kernel_rfl) rfl rfl ⟨(blk_cell BK311.out 0).trans rfl, (blk_cell BK311.out 1).trans rfl, (blk_cell BK311.out 2).trans rfl, (blk_cell BK311.out 3).trans rfl, (blk_cell BK311.out 4).trans rfl, (blk_cell BK311.out 5).trans rfl⟩ (fun hHeld => ?_); refine with_tabW millpondlaw07_RegionHas.tab17 millpondlaw07_RegionHas.bits17 (fun HT_ HW_ => ?_)
                  generalize w291.drew = w293 at HO315 HO349 BK311 BK324 BK332 HB hHeld ⊢
                  refine pure_ (i := 0) (N := some 84) (v := ?_) (a' := ?_) #[true, false, false, false, false, false, false, false, false, false, false, false, false, false, false, false, false, false, false, false, false, false] rfl rfl (any_of HT_.out (by kernel_rfl)) (fun _ _ _ h => h) (Or.inl ⟨by rfl, ?_⟩) ?_ ?_
                  rotate_left
                  · intro w'
                    go_simp
                    with_reducible rfl
                  rotate_left
                  · simp only [Act.put, List.setIfInBounds_toArray, List.set_cons_zero, List.set_cons_succ, i64_w, i32_w]
                    rfl
                  refine pure_ (i := 1) (N := some 85) (v := ?_) (a' := ?_) #[true, true, false, false, false, false, false, false, false, false, false, false, false, false, false, false, false, false, false, false, false, false] rfl rfl (any_of HT_.out (by kernel_rfl)) (fun _ _ _ h => h) (Or.inl ⟨by rfl, ?_⟩) ?_ ?_
                  rotate_left
                  · intro w'
                    go_simp
                    with_reducible rfl
                  rotate_left
                  · simp only [Act.put, List.setIfInBounds_toArray, List.set_cons_zero, List.set_cons_succ, i64_w, i32_w]
                    rfl
                  refine pure_ (i := 2) (N := some 86) (v := ?_) (a' := ?_) #[true, true, true, false, false, false, false, false, false, false, false, false, false, false, false, false, false, false, false, false, false, false] rfl rfl (any_of HT_.out (by kernel_rfl)) (fun _ _ _ h => h) (Or.inl ⟨by rfl, ?_⟩) ?_ ?_
                  rotate_left
                  · intro w'
                    go_simp
                    with_reducible rfl
                  rotate_left
                  · simp only [Act.put, List.setIfInBounds_toArray, List.set_cons_zero, List.set_cons_succ, i64_w, i32_w]
                    rfl
                  refine pure_ (i := 3) (N := some 87) (v := ?_) (a' := ?_) #[true, true, true, true, false, false, false, false, false, false, false, false, false, false, false, false, false, false, false, false, false, false] rfl rfl (any_of HT_.out (by kernel_rfl)) (fun _ _ _ h => h) (Or.inl ⟨by rfl, ?_⟩) ?_ ?_
                  rotate_left
                  · intro w'
                    go_simp
                    with_reducible rfl
                  rotate_left
                  · simp only [Act.put, List.setIfInBounds_toArray, List.set_cons_zero, List.set_cons_succ, i64_w, i32_w]
                    rfl
                  refine pure_ (i := 4) (N := some 88) (v := ?_) (a' := ?_) #[true, true, true, true, true, false, false, false, false, false, false, false, false, false, false, false, false, false, false, false, false, false] rfl rfl (any_of HT_.out (by kernel_rfl)) (fun _ _ _ h => h) (Or.inl ⟨by rfl, ?_⟩) ?_ ?_
                  rotate_left
                  · intro w'
                    go_simp
                    with_reducible rfl
                  rotate_left
                  · simp only [Act.put, List.setIfInBounds_toArray, List.set_cons_zero, List.set_cons_succ, i64_w, i32_w]
                    rfl
                  refine pure_ (i := 5) (N := some 89) (v := ?_) (a' := ?_) #[true, true, true, true, true, true, false, false, false, false, false, false, false, false, false, false, false, false, false, false, false, false] rfl rfl (any_of HT_.out (by kernel_rfl)) (fun _ _ _ h => h) (Or.inl ⟨by rfl, ?_⟩) ?_ ?_
                  rotate_left
                  · intro w'
                    go_simp
                    with_reducible rfl
                  rotate_left
                  · simp only [Act.put, List.setIfInBounds_toArray, List.set_cons_zero, List.set_cons_succ, i64_w, i32_w]
                    rfl
                  refine pure_ (i := 7) (N := some 91) (v := ?_) (a' := ?_) #[true, true, true, true, true, true, false, true, false, false, false, false, false, false, false, false, false, false, false, false, false, false] rfl rfl (any_of HT_.out (by kernel_rfl)) (fun _ _ _ h => h) (Or.inl ⟨by rfl, ?_⟩) ?_ ?_
                  rotate_left
                  · intro w'
                    go_simp
                    with_reducible rfl
                  rotate_left
                  · simp only [Act.put, List.setIfInBounds_toArray, List.set_cons_zero, List.set_cons_succ, i64_w, i32_w]
                    rfl
                  refine pure_ (i := 9) (N := some 93) (v := ?_) (a' := ?_) #[true, true, true, true, true, true, false, true, false, true, false, false, false, false, false, false, false, false, false, false, false, false] rfl rfl (any_of HT_.out (by kernel_rfl)) (fun _ _ _ h => h) (Or.inl ⟨by rfl, ?_⟩) ?_ ?_
                  rotate_left
                  · intro w'
                    go_simp
                    with_reducible rfl
                  rotate_left
                  · simp only [Act.put, List.setIfInBounds_toArray, List.set_cons_zero, List.set_cons_succ, i64_w, i32_w]
                    rfl
                  refine pure_ (i := 12) (N := some 96) (v := ?_) (a' := ?_) #[true, true, true, true, true, true, false, true, false, true, false, false, true, false, false, false, false, false, false, false, false, false] rfl rfl (any_of HT_.out (by kernel_rfl)) (fun _ _ _ h => h) (Or.inl ⟨by rfl, ?_⟩) ?_ ?_
                  rotate_left
                  · intro w'
                    go_simp
                    with_reducible rfl
                  rotate_left
                  · simp only [Act.put, List.setIfInBounds_toArray, List.set_cons_zero, List.set_cons_succ, i64_w, i32_w]
                    rfl
                  refine take_ (i := 10) (N := some 94) (v := ?_) (a' := ?_) #[true, true, true, true, true, true, false, true, false, true, true, false, true, false, false, false, false, false, false, false, false, false] rfl rfl (take_ofW HT_.out HW_.out (by kernel_rfl)) (fun _ _ _ h => h) (Or.inl ⟨by rfl, ?_⟩) hHeld ?_ ?_
                  rotate_left
                  · rintro w' ⟨s0, s1, s2, s3, s4, s5⟩
                    go_simp
                    with_reducible rfl
                  rotate_left
                  · simp only [Act.put, List.setIfInBounds_toArray, List.set_cons_zero, List.set_cons_succ, i64_w, i32_w]
                    rfl
                  refine take_ (i := 13) (N := some 97) (v := ?_) (a' := ?_) #[true, true, true, true, true, true, false, true, false, true, true, false, true, true, false, false, false, false, false, false, false, false] rfl rfl (take_ofW HT_.out HW_.out (by kernel_rfl)) (fun _ _ _ h => h) (Or.inl ⟨by rfl, ?_⟩) hHeld ?_ ?_
                  rotate_left
                  · rintro w' ⟨s0, s1, s2, s3, s4, s5⟩
                    go_simp
                    with_reducible rfl
                  rotate_left
                  · simp only [Act.put, List.setIfInBounds_toArray, List.set_cons_zero, List.set_cons_succ, i64_w, i32_w]
                    rfl
                  refine one_ (i := 6) (N := some 90) #[true, true, true, true, true, true, true, true, false, true, true, false, true, true, false, false, false, false, false, false, false, false] rfl rfl (one_of HT_.out (by kernel_rfl)) (by decide) (fun K hK => ?_)
                  refine goes_ Try.func20 (by kernel_rfl) rfl #[.slice Ao279 t313.length co279] (by rfl) rfl rfl (by (try simp only [List.map_toArray, List.map_cons, List.map_nil]); first | done | rfl | (simp only [List.length_drop, List.length_take]; rfl)) ?_
                  with_reducible refine (region_Pages.calls k _ _ t313 t351 _ ?side1 ?side2 A271.out).mono ?_
                  (case side1 => repeat (first | exact (Kd.R_reads' HO315.out).2.2 | (with_reducible refine Kd.C_alloc ?_ _) | (with_reducible refine Kd.C_drewN ?_ _) | (with_reducible refine Kd.C_drew ?_)))
                  (case side2 => exact (Kd.R_reads' HO315.out).2.1)
                  rintro e w294 ⟨rfl, hb⟩
                  refine ⟨_, rfl, ?_⟩
                  have n0_ := Aside0.mk (Kd.R_below (by (with_reducible repeat (first | apply Kd.R_alloc | apply Kd.R_drewN | apply Kd.R_drew)); exact HO315.out) hb)
                  have n1_ := Aside0.mk (Kd.R_below (by (with_reducible repeat (first | apply Kd.R_alloc | apply Kd.R_drewN | apply Kd.R_drew)); exact HO349.out) hb)
                  have n2_ := Aside0.mk (blk_below (g := gb311) (o := .cells #[.int .i64 a1_0, .int .i64 a1_1, .int .i64 a1_2, .int .i64 a1_3, .int .i64 a1_4, .bool a1_5] 25 (0, 0)) (by (with_reducible repeat (first | refine blk_drewN ?_ _ | refine blk_drew ?_ | refine blk_alloc ?_ _)); exact BK311.out) hb)
                  have n3_ := Aside0.mk (blk_below (g := gb324) (o := .cells #[.int .i64 t317, .int .i64 t318, .int .i64 t319, .int .i64 t320, .int .i64 t321, .bool t322] 25 (0, 0)) (by (with_reducible repeat (first | refine blk_drewN ?_ _ | refine blk_drew ?_ | refine blk_alloc ?_ _)); exact BK324.out) hb)
                  have n4_ := Aside0.mk (blk_below (g := gb332) (o := .cells #[.int .i64 t325, .int .i64 t326, .int .i64 t327, .int .i64 t328, .int .i64 t329, .bool t330] 25 (0, 0)) (by (with_reducible repeat (first | refine blk_drewN ?_ _ | refine blk_drew ?_ | refine blk_alloc ?_ _)); exact BK332.out) hb)
                  have n5_ := Aside0.mk (below_step (by repeat (first | (with_reducible first | exact HB.out | apply below_alloc | apply pw_below_drewN | apply below_drew1 | refine below_set ?_ GE311.out | refine below_set ?_ GE324.out | refine below_set ?_ GE332.out) | exact HB.out)) hb)
                  clear HO315
                  clear HO349
                  clear BK311
                  clear BK324
                  clear BK332
                  clear HB
                  have HO315 := n0_
                  have HO349 := n1_
                  have BK311 := n2_
                  have BK324 := n3_
                  have BK332 := n4_
                  have HB := n5_
                  clear n0_ n1_ n2_ n3_ n4_ n5_
                  (try clear hb)
                  (try clear hb2)
                  (try clear hk)
                  (try clear hi)
                  refine hK.out _ _ ⟨(blk_cell BK311.out 0).trans rfl, (blk_cell BK311.out 1).trans rfl, (blk_cell BK311.out 2).trans rfl, (blk_cell BK311.out 3).trans rfl, (blk_cell BK311.out 4).trans rfl, (blk_cell BK311.out 5).trans rfl⟩ (fun hHeld => ?_)
                  clear hK K
                  refine norm_ (a' := ?_) ?_ ?_
                  rotate_left
                  · show Act.put _ (some 90) _ = _
                    simp only [Act.put, List.setIfInBounds_toArray, List.set_cons_zero, List.set_cons_succ, i64_w, i32_w]
                    rfl
                  refine one_ (i := 8) (N := some 92) #[true, true, true, true, true, true, true, true, true, true, true, false, true, true, false, false, false, false, false, false, false, false] rfl rfl (one_of HT_.out (by kernel_rfl)) (by decide) (fun K hK => ?_)
                  refine goes_ Try.func20 (by kernel_rfl) rfl #[.slice A0 l0.length c0] (by rfl) rfl rfl (by (try simp only [List.map_toArray, List.map_cons, List.map_nil]); first | done | rfl | (simp only [List.length_drop, List.length_take]; rfl)) ?_
                  with_reducible refine (region_Pages.calls k _ _ l0 t352 _ ?side1 ?side2 A272.out).mono ?_
                  (case side1 => repeat (first | exact (Kd.C_below HR0.out HB.out) | (with_reducible refine Kd.C_alloc ?_ _) | (with_reducible refine Kd.C_drewN ?_ _) | (with_reducible refine Kd.C_drew ?_)))
                  (case side2 => exact HC0.out)
                  rintro e w295 ⟨rfl, hb⟩
                  refine ⟨_, rfl, ?_⟩
                  have n0_ := Aside0.mk (Kd.R_below (by (with_reducible repeat (first | apply Kd.R_alloc | apply Kd.R_drewN | apply Kd.R_drew)); exact HO315.out) hb)
                  have n1_ := Aside0.mk (Kd.R_below (by (with_reducible repeat (first | apply Kd.R_alloc | apply Kd.R_drewN | apply Kd.R_drew)); exact HO349.out) hb)
                  have n2_ := Aside0.mk (blk_below (g := gb311) (o := .cells #[.int .i64 a1_0, .int .i64 a1_1, .int .i64 a1_2, .int .i64 a1_3, .int .i64 a1_4, .bool a1_5] 25 (0, 0)) (by (with_reducible repeat (first | refine blk_drewN ?_ _ | refine blk_drew ?_ | refine blk_alloc ?_ _)); exact BK311.out) hb)
                  have n3_ := Aside0.mk (blk_below (g := gb324) (o := .cells #[.int .i64 t317, .int .i64 t318, .int .i64 t319, .int .i64 t320, .int .i64 t321, .bool t322] 25 (0, 0)) (by (with_reducible repeat (first | refine blk_drewN ?_ _ | refine blk_drew ?_ | refine blk_alloc ?_ _)); exact BK324.out) hb)
                  have n4_ := Aside0.mk (blk_below (g := gb332) (o := .cells #[.int .i64 t325, .int .i64 t326, .int .i64 t327, .int .i64 t328, .int .i64 t329, .bool t330] 25 (0, 0)) (by (with_reducible repeat (first | refine blk_drewN ?_ _ | refine blk_drew ?_ | refine blk_alloc ?_ _)); exact BK332.out) hb)
                  have n5_ := Aside0.mk (below_step (by repeat (first | (with_reducible first | exact HB.out | apply below_alloc | apply pw_below_drewN | apply below_drew1 | refine below_set ?_ GE311.out | refine below_set ?_ GE324.out | refine below_set ?_ GE332.out) | exact HB.out)) hb)
                  clear HO315
                  clear HO349
                  clear BK311
                  clear BK324
                  clear BK332
                  clear HB
                  have HO315 := n0_
                  have HO349 := n1_
                  have BK311 := n2_
                  have BK324 := n3_
                  have BK332 := n4_
                  have HB := n5_
                  clear n0_ n1_ n2_ n3_ n4_ n5_
                  (try clear hb)
                  (try clear hb2)
                  (try clear hk)
                  (try clear hi)
                  refine hK.out _ _ ⟨(blk_cell BK311.out 0).trans rfl, (blk_cell BK311.out 1).trans rfl, (blk_cell BK311.out 2).trans rfl, (blk_cell BK311.out 3).trans rfl, (blk_cell BK311.out 4).trans rfl, (blk_cell BK311.out 5).trans rfl⟩ (fun hHeld => ?_)
                  clear hK K
                  refine norm_ (a' := ?_) ?_ ?_
                  rotate_left
                  · show Act.put _ (some 92) _ = _
                    simp only [Act.put, List.setIfInBounds_toArray, List.set_cons_zero, List.set_cons_succ, i64_w, i32_w]
                    rfl
                  refine pure_ (i := 11) (N := some 95) (v := ?_) (a' := ?_) #[true, true, true, true, true, true, true, true, true, true, true, true, true, true, false, false, false, false, false, false, false, false] rfl rfl (any_of HT_.out (by kernel_rfl)) (fun _ _ _ h => h) (Or.inl ⟨by rfl, ?_⟩) ?_ ?_
                  rotate_left
                  · intro w'
                    go_simp
                    with_reducible rfl
                  rotate_left
                  · simp only [Act.put, List.setIfInBounds_toArray, List.set_cons_zero, List.set_cons_succ, i64_w, i32_w]
                    rfl
                  refine pure_ (i := 14) (N := some 98) (v := ?_) (a' := ?_) #[true, true, true, true, true, true, true, true, true, true, true, true, true, true, true, false, false, false, false, false, false, false] rfl rfl (any_of HT_.out (by kernel_rfl)) (fun _ _ _ h => h) (Or.inl ⟨by rfl, ?_⟩) ?_ ?_
                  rotate_left
                  · intro w'
                    go_simp
                    with_reducible rfl
                  rotate_left
                  · simp only [Act.put, List.setIfInBounds_toArray, List.set_cons_zero, List.set_cons_succ, i64_w, i32_w]
                    rfl
                  refine pure_ (i := 15) (N := some 99) (v := ?_) (a' := ?_) #[true, true, true, true, true, true, true, true, true, true, true, true, true, true, true, true, false, false, false, false, false, false] rfl rfl (any_of HT_.out (by kernel_rfl)) (fun _ _ _ h => h) (Or.inl ⟨by rfl, ?_⟩) ?_ ?_
                  rotate_left
                  · intro w'
                    go_simp
                    with_reducible rfl
                  rotate_left
                  · simp only [Act.put, List.setIfInBounds_toArray, List.set_cons_zero, List.set_cons_succ, i64_w, i32_w]
                    rfl
                  refine pure_ (i := 16) (N := some 100) (v := ?_) (a' := ?_) #[true, true, true, true, true, true, true, true, true, true, true, true, true, true, true, true, true, false, false, false, false, false] rfl rfl (any_of HT_.out (by kernel_rfl)) (fun _ _ _ h => h) (Or.inl ⟨by rfl, ?_⟩) ?_ ?_
                  rotate_left
                  · intro w'
                    go_simp
                    with_reducible rfl
                  rotate_left
                  · simp only [Act.put, List.setIfInBounds_toArray, List.set_cons_zero, List.set_cons_succ, i64_w, i32_w]
                    rfl
                  refine pure_ (i := 17) (N := some 101) (v := ?_) (a' := ?_) #[true, true, true, true, true, true, true, true, true, true, true, true, true, true, true, true, true, true, false, false, false, false] rfl rfl (any_of HT_.out (by kernel_rfl)) (fun _ _ _ h => h) (Or.inl ⟨by rfl, ?_⟩) ?_ ?_
                  rotate_left
                  · intro w'
                    go_simp
                    with_reducible rfl
                  rotate_left
                  · simp only [Act.put, List.setIfInBounds_toArray, List.set_cons_zero, List.set_cons_succ, i64_w, i32_w]
                    rfl
                  refine pure_ (i := 18) (N := some 102) (v := ?_) (a' := ?_) #[true, true, true, true, true, true, true, true, true, true, true, true, true, true, true, true, true, true, true, false, false, false] rfl rfl (any_of HT_.out (by kernel_rfl)) (fun _ _ _ h => h) (Or.inl ⟨by rfl, ?_⟩) ?_ ?_
                  rotate_left
                  · intro w'
                    go_simp
                    with_reducible rfl
                  rotate_left
                  · simp only [Act.put, List.setIfInBounds_toArray, List.set_cons_zero, List.set_cons_succ, i64_w, i32_w]
                    rfl
                  refine one_ (i := 19) (N := some 103) #[true, true, true, true, true, true, true, true, true, true, true, true, true, true, true, true, true, true, true, true, false, false] rfl rfl (one_of HT_.out (by kernel_rfl)) (by decide) (fun K hK => ?_)
                  refine goes_ Try.func19 (by kernel_rfl) rfl #[.slice Ao279 t313.length co279] (by rfl) rfl rfl (by (try simp only [List.map_toArray, List.map_cons, List.map_nil]); first | done | rfl | (simp only [List.length_drop, List.length_take]; rfl)) ?_
                  with_reducible refine (region_Right.calls k _ _ t313 t353 _ ?side1 ?side2 A274.out).mono ?_
                  (case side1 => repeat (first | exact (Kd.R_reads' HO315.out).2.2 | (with_reducible refine Kd.C_alloc ?_ _) | (with_reducible refine Kd.C_drewN ?_ _) | (with_reducible refine Kd.C_drew ?_)))
                  (case side2 => exact (Kd.R_reads' HO315.out).2.1)
                  rintro e w296 ⟨rfl, hb⟩
                  refine ⟨_, rfl, ?_⟩
                  have n0_ := Aside0.mk (Kd.R_below (by (with_reducible repeat (first | apply Kd.R_alloc | apply Kd.R_drewN | apply Kd.R_drew)); exact HO315.out) hb)
                  have n1_ := Aside0.mk (Kd.R_below (by (with_reducible repeat (first | apply Kd.R_alloc | apply Kd.R_drewN | apply Kd.R_drew)); exact HO349.out) hb)
                  have n2_ := Aside0.mk (blk_below (g := gb311) (o := .cells #[.int .i64 a1_0, .int .i64 a1_1, .int .i64 a1_2, .int .i64 a1_3, .int .i64 a1_4, .bool a1_5] 25 (0, 0)) (by (with_reducible repeat (first | refine blk_drewN ?_ _ | refine blk_drew ?_ | refine blk_alloc ?_ _)); exact BK311.out) hb)
                  have n3_ := Aside0.mk (blk_below (g := gb324) (o := .cells #[.int .i64 t317, .int .i64 t318, .int .i64 t319, .int .i64 t320, .int .i64 t321, .bool t322] 25 (0, 0)) (by (with_reducible repeat (first | refine blk_drewN ?_ _ | refine blk_drew ?_ | refine blk_alloc ?_ _)); exact BK324.out) hb)
                  have n4_ := Aside0.mk (blk_below (g := gb332) (o := .cells #[.int .i64 t325, .int .i64 t326, .int .i64 t327, .int .i64 t328, .int .i64 t329, .bool t330] 25 (0, 0)) (by (with_reducible repeat (first | refine blk_drewN ?_ _ | refine blk_drew ?_ | refine blk_alloc ?_ _)); exact BK332.out) hb)
                  have n5_ := Aside0.mk (below_step (by repeat (first | (with_reducible first | exact HB.out | apply below_alloc | apply pw_below_drewN | apply below_drew1 | refine below_set ?_ GE311.out | refine below_set ?_ GE324.out | refine below_set ?_ GE332.out) | exact HB.out)) hb)
                  clear HO315
                  clear HO349
                  clear BK311
                  clear BK324
                  clear BK332
                  clear HB
                  have HO315 := n0_
                  have HO349 := n1_
                  have BK311 := n2_
                  have BK324 := n3_
                  have BK332 := n4_
                  have HB := n5_
                  clear n0_ n1_ n2_ n3_ n4_ n5_
                  (try clear hb)
                  (try clear hb2)
                  (try clear hk)
                  (try clear hi)
                  refine hK.out _ _ ⟨(blk_cell BK311.out 0).trans rfl, (blk_cell BK311.out 1).trans rfl, (blk_cell BK311.out 2).trans rfl, (blk_cell BK311.out 3).trans rfl, (blk_cell BK311.out 4).trans rfl, (blk_cell BK311.out 5).trans rfl⟩ (fun hHeld => ?_)
                  clear hK K
                  refine norm_ (a' := ?_) ?_ ?_
                  rotate_left
                  · show Act.put _ (some 103) _ = _
                    simp only [Act.put, List.setIfInBounds_toArray, List.set_cons_zero, List.set_cons_succ, i64_w, i32_w]
                    rfl
                  refine pure_ (i := 20) (N := some 104) (v := ?_) (a' := ?_) #[true, true, true, true, true, true, true, true, true, true, true, true, true, true, true, true, true, true, true, true, true, false] rfl rfl (any_of HT_.out (by kernel_rfl)) (fun _ _ _ h => h) (Or.inl ⟨by rfl, ?_⟩) ?_ ?_
                  rotate_left
                  · intro w'
                    go_simp
                    with_reducible rfl
                  rotate_left
                  · simp only [Act.put, List.setIfInBounds_toArray, List.set_cons_zero, List.set_cons_succ, i64_w, i32_w]
                    rfl
                  refine pure_ (i := 21) (N := some 6) (v := ?_) (a' := ?_) #[true, true, true, true, true, true, true, true, true, true, true, true, true, true, true, true, true, true, true, true, true, true] rfl rfl (any_of HT_.out (by kernel_rfl)) (fun _ _ _ h => h) (Or.inl ⟨by rfl, ?_⟩) ?_ ?_
                  rotate_left
                  · intro w'
                    go_simp
                    with_reducible rfl
                  rotate_left
                  · simp only [Act.put, List.setIfInBounds_toArray, List.set_cons_zero, List.set_cons_succ, i64_w, i32_w]
                    rfl
                  refine done_ (done_of HT_.out (by kernel_rfl)) ?_
                  try go_wp2
                  go_ret
                  exact ⟨by first | rfl | (simp [errW_none, errW_some] <;> rfl) | (simp [*, errW_none, errW_some] <;> rfl), by repeat (first | (with_reducible first | exact HB.out | apply below_alloc | apply pw_below_drewN | apply below_drew1 | refine below_set ?_ GE311.out | refine below_set ?_ GE324.out | refine below_set ?_ GE332.out) | exact HB.out)⟩
                · rw [if_neg c273] at H
                  have c273b0 : (t351 == (wrap64 ((wrap64 (t352 + a1_1)) - a1_0))) = false := beq_eq_false_iff_ne.mpr c273
                  have c273b1 : (t351 != (wrap64 ((wrap64 (t352 + a1_1)) - a1_0))) = true := bne_iff_ne.mpr c273
                  exact absurd ((Option.some.inj H).trans hrT.out) (by decide)
              · replace c270 := Bool.eq_false_iff.mpr c270
                subst c270
                have H1 : (some false) = some r := by rw [if_neg (show ¬ (false = true) by decide)] at H; exact H
                clear H
                have H := H1
                clear H1
                exact absurd ((Option.some.inj H).trans hrT.out) (by decide)
      · rw [if_neg c10] at H
        have c10b0 : (t316 == 0) = false := beq_eq_false_iff_ne.mpr c10
        have c10b1 : (t316 != 0) = true := bne_iff_ne.mpr c10
        obtain rfl := Option.some.inj H
        go_enter Try.func6, Try.ntmps6
        go_wp2_with (first | ((with_reducible refine gate_dst (N := 4) rfl ?_); (try (refine gate_guard (by rfl) ?_; dsimp only)); refine box_event ?hg (N := 4) ?hd (cs := #[.int .i64 a1_0, .int .i64 a1_1, .int .i64 a1_2, .int .i64 a1_3, .int .i64 a1_4, .bool a1_5]) (t := 25) ?hr ?_; (case hd => rfl); (case hg => rfl); (case hr => first | (go_simp; done) | (go_simp; rfl)); intro gb311 hg w337 hbox hb; have n0_ := Aside0.mk (below_step (by repeat (first | (with_reducible first | exact HB.out | apply below_alloc | apply pw_below_drewN | apply below_drew1) | exact HB.out)) hb); have n1_ := Aside0.mk (hbox); have n2_ := Aside0.mk ((by rw [hg]; exact (below_size (by repeat (first | (with_reducible first | exact HB.out | apply below_alloc | apply pw_below_drewN | apply below_drew1) | exact HB.out))) : w.heap.size ≤ gb311)); have n3_ := Aside0.mk ((by rw [hg]; exact (below_size (by repeat (first | (with_reducible first | exact HB.out | apply below_alloc | apply pw_below_drewN | apply below_drew1) | exact HB.out))) : w.heap.size ≤ gb311)); clear HB; have HB := n0_; have BK311 := n1_; have GW311 := n2_; have GE311 := n3_; clear n0_ n1_ n2_ n3_; clear hb hbox hg) | ((with_reducible refine gate_callee (f := 10) rfl ?_); refine goesL_ (some 15) rfl rfl Try.func10 (by kernel_rfl) rfl #[] rfl (by (try simp only [List.map_toArray, List.map_cons, List.map_nil]); first | done | rfl | (simp only [List.length_drop, List.length_take]; rfl)) ?_; (with_reducible refine (millpondlaw07_works.calls k  true _ A4.out).mono ?_); rintro e w338 ⟨rfl, hb⟩; refine ⟨_, rfl, ?_⟩; have n0_ := Aside0.mk (blk_below (g := gb311) (o := .cells #[.int .i64 a1_0, .int .i64 a1_1, .int .i64 a1_2, .int .i64 a1_3, .int .i64 a1_4, .bool a1_5] 25 (0, 0)) (by (with_reducible repeat (first | refine blk_drewN ?_ _ | refine blk_drew ?_ | refine blk_alloc ?_ _)); exact BK311.out) hb); have n1_ := Aside0.mk (below_step (by repeat (first | (with_reducible first | exact HB.out | apply below_alloc | apply pw_below_drewN | apply below_drew1 | refine below_set ?_ GE311.out) | exact HB.out)) hb); clear BK311; clear HB; have BK311 := n0_; have HB := n1_; clear n0_ n1_; (try clear hb); (try clear hb2); (try clear hk); (try clear hi); have hcz339_0 : w338.cell? ⟨gb311, 0, none⟩ = some (.int .i64 a1_0) := (blk_cell BK311.out 0).trans rfl; have hcz339_1 : w338.cell? ⟨gb311, 1, none⟩ = some (.int .i64 a1_1) := (blk_cell BK311.out 1).trans rfl; have hcz339_2 : w338.cell? ⟨gb311, 2, none⟩ = some (.int .i64 a1_2) := (blk_cell BK311.out 2).trans rfl; have hcz339_3 : w338.cell? ⟨gb311, 3, none⟩ = some (.int .i64 a1_3) := (blk_cell BK311.out 3).trans rfl; have hcz339_4 : w338.cell? ⟨gb311, 4, none⟩ = some (.int .i64 a1_4) := (blk_cell BK311.out 4).trans rfl; have hcz339_5 : w338.cell? ⟨gb311, 5, none⟩ = some (.bool a1_5) := (blk_cell BK311.out 5).trans rfl; have hfz339_0 := blk_frozen BK311.out 0; have hfz339_1 := blk_frozen BK311.out 1; have hfz339_2 := blk_frozen BK311.out 2; have hfz339_3 := blk_frozen BK311.out 3; have hfz339_4 := blk_frozen BK311.out 4; have hfz339_5 := blk_frozen BK311.out 5) | ((with_reducible refine gate_callee (f := 11) rfl ?_); refine goesL_ (some 25) rfl rfl Try.func11 (by kernel_rfl) rfl #[.slice A0 l0.length c0, .agg #[.int .i64 a1_0, .int .i64 a1_1, .int .i64 a1_2, .int .i64 a1_3, .int .i64 a1_4, .bool a1_5]] rfl (by (try simp only [List.map_toArray, List.map_cons, List.map_nil]); first | done | rfl | (simp only [List.length_drop, List.length_take]; rfl)) ?_; (with_reducible refine (region_Add.calls _ _ l0 a1_0 a1_1 a1_2 a1_3 a1_4 a1_5 t313 t316 _ ?side1 ?side2 A9.out).mono ?_); (case side1 => repeat (first | exact (Kd.C_below HR0.out HB.out) | (with_reducible refine Kd.C_alloc ?_ _) | (with_reducible refine Kd.C_drewN ?_ _) | (with_reducible refine Kd.C_drew ?_))); (case side2 => exact HC0.out); rintro e w340 ⟨v314, rfl, ho0, hb⟩; refine ⟨_, rfl, ?_⟩; have n0_ := Aside0.mk (Kd.R_lower (Kd.R_newB ho0 (g := gb311) (o := .cells #[.int .i64 a1_0, .int .i64 a1_1, .int .i64 a1_2, .int .i64 a1_3, .int .i64 a1_4, .bool a1_5] 25 (0, 0)) (by (with_reducible repeat (first | refine blk_drewN ?_ _ | refine blk_drew ?_ | refine blk_alloc ?_ _)); exact BK311.out)) (below_size (by repeat (first | (with_reducible first | exact HB.out | apply below_alloc | apply pw_below_drewN | apply below_drew1 | refine below_set ?_ GE311.out) | exact HB.out)))); have n1_ := Aside0.mk (blk_below (g := gb311) (o := .cells #[.int .i64 a1_0, .int .i64 a1_1, .int .i64 a1_2, .int .i64 a1_3, .int .i64 a1_4, .bool a1_5] 25 (0, 0)) (by (with_reducible repeat (first | refine blk_drewN ?_ _ | refine blk_drew ?_ | refine blk_alloc ?_ _)); exact BK311.out) hb); have n2_ := Aside0.mk (below_step (by repeat (first | (with_reducible first | exact HB.out | apply below_alloc | apply pw_below_drewN | apply below_drew1 | refine below_set ?_ GE311.out) | exact HB.out)) hb); clear BK311; clear HB; have HO315 := n0_; have BK311 := n1_; have HB := n2_; clear n0_ n1_ n2_; (try clear hb); (try clear hb2); (try clear hk); (try clear hi); (try clear ho0); obtain ⟨Ao341, co341, eo341⟩ := Kd.R_slice HO315.out; subst eo341))
        go_ret
        exact ⟨by first | rfl | (simp [errW_none, errW_some] <;> rfl) | (simp [*, errW_none, errW_some] <;> rfl), by repeat (first | (with_reducible first | exact HB.out | apply below_alloc | apply pw_below_drewN | apply below_drew1 | refine below_set ?_ GE311.out) | exact HB.out)⟩
  · replace c5 := Bool.eq_false_iff.mpr c5
    subst c5
    have H1 : (some false) = some r := by rw [if_neg (show ¬ (false = true) by decide)] at H; exact H
    clear H
    have H := H1
    clear H1
    exact absurd ((Option.some.inj H).trans hrT.out) (by decide)
end Go.Proofs.Ytpgfhgonkinldaa.A
