-- PRINTED BY print.sh 35421559b90ae4d0a3588c463048766b98c2df88dd9212a6774a882060cdf62d: not written by this session
import Derived.Test.YtjcibcnphdnfbaaPEntryTurnsx0
import Derived.Test.YtjcibcnphdnfbaaPEntryTurnsx3
import Derived.Test.YtjcibcnphdnfbaaPEntryTurnsx4
import Derived.Test.YtjcibcnphdnfbaaPEntryTurnsx5
import Derived.Test.YtjcibcnphdnfbaaPEntryTurnsx6
namespace Go.Proofs.Ytjcibcnphdnfbaa.PEntryTurns
open Go.RowKit Go.Proofs.YtjcibcnphdnfbaaW.PrintWords Go.Proofs.YtjcibcnphdnfbaaW.PrintLast Go.Proofs.YtjcibcnphdnfbaaW.PrintMore
attribute [local go_sem] max2_int min2_int max_two min_two max_three min_three max_four min_four   -- for this text's walks alone
set_option linter.unusedVariables false
set_option linter.unusedSimpArgs false

/-! ### millpondref06_with: function 29 -/
def millpondref06_with.j0 : Nat → Int → Int → Int → Bool → Int → Int → Bool → Bool → Option (Int)
  | 0, _, _, _, _, _, _, _, _ => none
  | k + 1, x0, x1, x2, x22, x214000, x214001, x214002, x214003 => if x22 = true then (some x0) else (if x1 ≥ 0 then (if x2 ≥ 0 then ((millpondref06_Pack.f k x214000 x214001 (x1 == 1) (x2 == 1)).bind fun bt214 => (some bt214.1)) else ((millpondref06_Pack.f k x214000 x214001 (x1 == 1) x214003).bind fun bt216 => (some bt216.1))) else (if x2 ≥ 0 then ((millpondref06_Pack.f k x214000 x214001 x214002 (x2 == 1)).bind fun bt218 => (some bt218.1)) else ((millpondref06_Pack.f k x214000 x214001 x214002 x214003).bind fun bt220 => (some bt220.1))))
def millpondref06_with.f (k : Nat) (a0 : Int) (a1 : Int) (a2 : Int) : Option (Int) := (millpondref06_Unpack.f k a0).bind fun bt208 => (if bt208.2.2.2.2 = 0 then (millpondref06_with.j0 k a0 a1 a2 (bt208.1 == 0) bt208.1 bt208.2.1 bt208.2.2.1 bt208.2.2.2.1) else (millpondref06_with.j0 k a0 a1 a2 true bt208.1 bt208.2.1 bt208.2.2.1 bt208.2.2.2.1))
theorem millpondref06_with.mono_l : ∀ k, (∀ y0 y1 y2 y3 y4 y5 y6 y7, LeO (millpondref06_with.j0 k y0 y1 y2 y3 y4 y5 y6 y7) (millpondref06_with.j0 (k + 1) y0 y1 y2 y3 y4 y5 y6 y7))
  | 0 => fun _ _ _ _ _ _ _ _ r h => by simp [millpondref06_with.j0] at h
  | k + 1 => by
    have ih0 := millpondref06_with.mono_l k
    · intro y0 y1 y2 y3 y4 y5 y6 y7
      unfold millpondref06_with.j0
      repeat' first
      | (with_reducible exact ih0 _ _ _ _ _ _ _ _)
      | (with_reducible exact millpondref06_Pack.mono _ _ _ _ _)
      | (with_reducible exact millpondref06_Unpack.mono _ _)
      | (with_reducible exact LeO.refl _)
      | (with_reducible exact LeO.none _)
      | (with_reducible refine LeO.ite ?_ ?_)
      | (with_reducible refine LeO.bind ?_ (fun _ => ?_))
      | exact ih0 _ _ _ _ _ _ _ _
      | exact millpondref06_Pack.mono _ _ _ _ _
      | exact millpondref06_Unpack.mono _ _
      | exact LeO.none _
      | refine LeO.ite ?_ ?_
      | refine LeO.bind ?_ (fun _ => ?_)
theorem millpondref06_with.mono : ∀ a0 a1 a2 k, LeO (millpondref06_with.f k a0 a1 a2) (millpondref06_with.f (k + 1) a0 a1 a2) := by
  intro a0 a1 a2 k
  have ih0 := millpondref06_with.mono_l k
  unfold millpondref06_with.f
  repeat' first
      | (with_reducible exact ih0 _ _ _ _ _ _ _ _)
      | (with_reducible exact millpondref06_Pack.mono _ _ _ _ _)
      | (with_reducible exact millpondref06_Unpack.mono _ _)
      | (with_reducible exact LeO.refl _)
      | (with_reducible exact LeO.none _)
      | (with_reducible refine LeO.ite ?_ ?_)
      | (with_reducible refine LeO.bind ?_ (fun _ => ?_))
      | exact ih0 _ _ _ _ _ _ _ _
      | exact millpondref06_Pack.mono _ _ _ _ _
      | exact millpondref06_Unpack.mono _ _
      | exact LeO.none _
      | refine LeO.ite ?_ ?_
      | refine LeO.bind ?_ (fun _ => ?_)
set_option maxHeartbeats 8000000 in
set_option maxRecDepth 100000 in
theorem millpondref06_with.calls (k : Nat) (a0 : Int) (a1 : Int) (a2 : Int) (r : Int) (w : World) (h : millpondref06_with.f k a0 a1 a2 = some r) :
    Calls Try.prog 29 #[.int .u64 a0, .int .i64 a1, .int .i64 a2] w fun e w' => e = .returned (.int .u64 r) ∧ Below w.heap.size w w' := by
  have hu24 := Try.underlying24
  have HB := Aside0.mk (Below.refl w.heap.size w)
  have H : ((millpondref06_Unpack.f k a0).bind fun bt208 => (if bt208.2.2.2.2 = 0 then (millpondref06_with.j0 k a0 a1 a2 (bt208.1 == 0) bt208.1 bt208.2.1 bt208.2.2.1 bt208.2.2.2.1) else (millpondref06_with.j0 k a0 a1 a2 true bt208.1 bt208.2.1 bt208.2.2.1 bt208.2.2.2.1))) = some r := h
  clear h
  replace H := Option.bind_eq_some_iff.mp H
  obtain ⟨⟨t208, t209, t210, t211, t212⟩, A40, H⟩ := H
  replace H : (if t212 = 0 then (millpondref06_with.j0 k a0 a1 a2 (t208 == 0) t208 t209 t210 t211) else (millpondref06_with.j0 k a0 a1 a2 true t208 t209 t210 t211)) = some r := H
  have A4 := Aside0.mk A40
  clear A40
  have HC5 := Aside0.mk H
  clear H
  go_enter Try.func29, Try.ntmps29
  go_upto_region 2 with (first | ((with_reducible refine gate_callee (f := 13) rfl ?_); refine goesL_ (some 13) rfl rfl Try.func13 (by kernel_rfl) rfl #[.int .u64 a0] rfl (by (try simp only [List.map_toArray, List.map_cons, List.map_nil]); first | done | rfl | (simp only [List.length_drop, List.length_take]; rfl)) ?_; (with_reducible refine (millpondref06_Unpack.calls k a0 t208 t209 t210 t211 t212 _ A4.out).mono ?_); rintro e w6 ⟨rfl, hb⟩; refine ⟨_, rfl, ?_⟩; have n0_ := Aside0.mk (below_step (by repeat (first | (with_reducible first | exact HB.out | apply below_alloc | apply pw_below_drewN | apply below_drew1) | exact HB.out)) hb); clear HB; have HB := n0_; clear n0_; (try clear hb); (try clear hb2); (try clear hk); (try clear hi)) | ((with_reducible refine gate_dst (N := 7) rfl ?_); refine box_event ?hg (N := 7) ?hd (cs := #[.int .i64 0, .int .i64 0, .bool false, .bool false]) (t := 24) ?hr ?_; (case hd => rfl); (case hg => rfl); (case hr => first | (go_simp; done) | (go_simp; rfl)); intro gb213 hg w7 hbox hb; have n0_ := Aside0.mk (below_step (by repeat (first | (with_reducible first | exact HB.out | apply below_alloc | apply pw_below_drewN | apply below_drew1) | exact HB.out)) hb); have n1_ := Aside0.mk (hbox); have n2_ := Aside0.mk ((by rw [hg]; exact (below_size (by repeat (first | (with_reducible first | exact HB.out | apply below_alloc | apply pw_below_drewN | apply below_drew1) | exact HB.out))) : w.heap.size ≤ gb213)); have n3_ := Aside0.mk ((by rw [hg]; exact (below_size (by repeat (first | (with_reducible first | exact HB.out | apply below_alloc | apply pw_below_drewN | apply below_drew1) | exact HB.out))) : w.heap.size ≤ gb213)); clear HB; have HB := n0_; have BK213 := n1_; have GW213 := n2_; have GE213 := n3_; clear n0_ n1_ n2_ n3_; clear hb hbox hg; have hcz8_0 : w7.cell? ⟨gb213, 0, none⟩ = some (.int .i64 0) := (blk_cell BK213.out 0).trans rfl; have hcz8_1 : w7.cell? ⟨gb213, 1, none⟩ = some (.int .i64 0) := (blk_cell BK213.out 1).trans rfl; have hcz8_2 : w7.cell? ⟨gb213, 2, none⟩ = some (.bool false) := (blk_cell BK213.out 2).trans rfl; have hcz8_3 : w7.cell? ⟨gb213, 3, none⟩ = some (.bool false) := (blk_cell BK213.out 3).trans rfl; have hfz8_0 := blk_frozen BK213.out 0; have hfz8_1 := blk_frozen BK213.out 1; have hfz8_2 := blk_frozen BK213.out 2; have hfz8_3 := blk_frozen BK213.out 3))
  (try simp only [Act.put, List.setIfInBounds_toArray, List.set_cons_zero, List.set_cons_succ])
  go_cut [22] (fun v22 wc => ∃ (kq : Nat) (x22_4 : Bool), v22 = .bool x22_4 ∧ Aside0 (millpondref06_with.j0 kq a0 a1 a2 x22_4 t208 t209 t210 t211 = some r) ∧ Aside0 (kq ≤ k) ∧ Aside0 (wc.heap[gb213]? = some (.cells #[.int .i64 t208, .int .i64 t209, .bool t210, .bool t211] 24 (0, 0))) ∧ Aside0 (Below w.heap.size w wc))
  case first =>
    have H := HC5.out
    clear HC5
    by_cases c9 : t212 = 0
    · rw [if_pos c9] at H
      have c9b0 : (t212 == 0) = true := beq_iff_eq.mpr c9
      have c9b1 : (t212 != 0) = false := bne_eq_false_iff_eq.mpr c9
      clear c9
      (first | rw [c9b0] | (simp only [i64_w, i32_w]; rw [c9b0]) | skip)
      have H' := Aside0.mk H
      clear H
      have hcz10_0 : w7.cell? ⟨gb213, 0, none⟩ = some (.int .i64 0) := (blk_cell BK213.out 0).trans rfl
      have hcz10_1 : w7.cell? ⟨gb213, 1, none⟩ = some (.int .i64 0) := (blk_cell BK213.out 1).trans rfl
      have hcz10_2 : w7.cell? ⟨gb213, 2, none⟩ = some (.bool false) := (blk_cell BK213.out 2).trans rfl
      have hcz10_3 : w7.cell? ⟨gb213, 3, none⟩ = some (.bool false) := (blk_cell BK213.out 3).trans rfl
      have hfz10_0 := blk_frozen BK213.out 0
      have hfz10_1 := blk_frozen BK213.out 1
      have hfz10_2 := blk_frozen BK213.out 2
      have hfz10_3 := blk_frozen BK213.out 3
      go_wp2
      go_meet
      case rel => exact ⟨_, ((t208 == 0)), (by first | rfl | (simp; done) | (simp [*]; done)), H', ⟨by first | omega | exact Nat.le_refl _⟩, ⟨by (with_reducible repeat (first | refine blk_drewN ?_ _ | refine blk_drew ?_ | refine blk_alloc ?_ _)); refine blk_put (cs := #[.int .i64 t208, .int .i64 t209, .bool t210, .bool false]) ?_ 3 _ rfl; (with_reducible repeat (first | refine blk_drewN ?_ _ | refine blk_drew ?_ | refine blk_alloc ?_ _)); refine blk_put (cs := #[.int .i64 t208, .int .i64 t209, .bool false, .bool false]) ?_ 2 _ rfl; (with_reducible repeat (first | refine blk_drewN ?_ _ | refine blk_drew ?_ | refine blk_alloc ?_ _)); refine blk_put (cs := #[.int .i64 t208, .int .i64 0, .bool false, .bool false]) ?_ 1 _ rfl; (with_reducible repeat (first | refine blk_drewN ?_ _ | refine blk_drew ?_ | refine blk_alloc ?_ _)); refine blk_put (cs := #[.int .i64 0, .int .i64 0, .bool false, .bool false]) ?_ 0 _ rfl; (with_reducible repeat (first | refine blk_drewN ?_ _ | refine blk_drew ?_ | refine blk_alloc ?_ _)); exact BK213.out⟩, ⟨by repeat (first | (with_reducible first | exact HB.out | apply below_alloc | apply pw_below_drewN | apply below_drew1 | refine below_set ?_ GE213.out) | exact HB.out)⟩⟩
    · rw [if_neg c9] at H
      have c9b0 : (t212 == 0) = false := beq_eq_false_iff_ne.mpr c9
      have c9b1 : (t212 != 0) = true := bne_iff_ne.mpr c9
      (first | rw [c9b0] | (simp only [i64_w, i32_w]; rw [c9b0]) | skip)
      have H' := Aside0.mk H
      clear H
      go_wp2
      go_meet
      case rel => exact ⟨_, (true), (by first | rfl | (simp; done) | (simp [*]; done)), H', ⟨by first | omega | exact Nat.le_refl _⟩, ⟨by (with_reducible repeat (first | refine blk_drewN ?_ _ | refine blk_drew ?_ | refine blk_alloc ?_ _)); refine blk_put (cs := #[.int .i64 t208, .int .i64 t209, .bool t210, .bool false]) ?_ 3 _ rfl; (with_reducible repeat (first | refine blk_drewN ?_ _ | refine blk_drew ?_ | refine blk_alloc ?_ _)); refine blk_put (cs := #[.int .i64 t208, .int .i64 t209, .bool false, .bool false]) ?_ 2 _ rfl; (with_reducible repeat (first | refine blk_drewN ?_ _ | refine blk_drew ?_ | refine blk_alloc ?_ _)); refine blk_put (cs := #[.int .i64 t208, .int .i64 0, .bool false, .bool false]) ?_ 1 _ rfl; (with_reducible repeat (first | refine blk_drewN ?_ _ | refine blk_drew ?_ | refine blk_alloc ?_ _)); refine blk_put (cs := #[.int .i64 0, .int .i64 0, .bool false, .bool false]) ?_ 0 _ rfl; (with_reducible repeat (first | refine blk_drewN ?_ _ | refine blk_drew ?_ | refine blk_alloc ?_ _)); exact BK213.out⟩, ⟨by repeat (first | (with_reducible first | exact HB.out | apply below_alloc | apply pw_below_drewN | apply below_drew1 | refine below_set ?_ GE213.out) | exact HB.out)⟩⟩
  case rest =>
    clear HC5
    try clear c1
    try clear c2
    try clear p2
    try clear c9
    try clear c9b0
    try clear c9b1
    try clear hcz10_0
    try clear hcz10_1
    try clear hcz10_2
    try clear hcz10_3
    try clear hcz8_0
    try clear hcz8_1
    try clear hcz8_2
    try clear hcz8_3
    try clear hfz10_0
    try clear hfz10_1
    try clear hfz10_2
    try clear hfz10_3
    try clear hfz8_0
    try clear hfz8_1
    try clear hfz8_2
    try clear hfz8_3
    obtain ⟨kq, x22_4, rfl, HA, HJ4, BK213, HB⟩ := hcut
    cases kq with
    | zero => exact absurd HA.out (by simp [millpondref06_with.j0])
    | succ kj4 =>
      have H := HA.out
      clear HA
      simp only [millpondref06_with.j0] at H
      by_cases c11 : x22_4 = true
      · subst c11
        have H1 : (some a0) = some r := by rw [if_pos rfl] at H; exact H
        clear H
        have H := H1
        clear H1
        obtain rfl := Option.some.inj H
        go_wp2
        go_ret
        exact ⟨by first | rfl | (simp [errW_none, errW_some] <;> rfl) | (simp [*, errW_none, errW_some] <;> rfl), by repeat (first | (with_reducible first | exact HB.out | apply below_alloc | apply pw_below_drewN | apply below_drew1 | refine below_set ?_ GE213.out) | exact HB.out)⟩
      · replace c11 := Bool.eq_false_iff.mpr c11
        subst c11
        have H1 : (if a1 ≥ 0 then (if a2 ≥ 0 then ((millpondref06_Pack.f kj4 t208 t209 (a1 == 1) (a2 == 1)).bind fun bt214 => (some bt214.1)) else ((millpondref06_Pack.f kj4 t208 t209 (a1 == 1) t211).bind fun bt216 => (some bt216.1))) else (if a2 ≥ 0 then ((millpondref06_Pack.f kj4 t208 t209 t210 (a2 == 1)).bind fun bt218 => (some bt218.1)) else ((millpondref06_Pack.f kj4 t208 t209 t210 t211).bind fun bt220 => (some bt220.1)))) = some r := by rw [if_neg (show ¬ (false = true) by decide)] at H; exact H
        clear H
        have H := H1
        clear H1
        by_cases c12 : a1 ≥ 0
        · rw [if_pos c12] at H
          have c12b0 : decide (0 ≤ a1) = true := decide_eq_true c12
          clear c12
          by_cases c13 : a2 ≥ 0
          · rw [if_pos c13] at H
            have c13b0 : decide (0 ≤ a2) = true := decide_eq_true c13
            clear c13
            replace H := Option.bind_eq_some_iff.mp H
            obtain ⟨⟨t214, t215⟩, A140, H⟩ := H
            replace H : (some t214) = some r := H
            have A14 := Aside0.mk A140
            clear A140
            obtain rfl := Option.some.inj H
            have hcz15_0 : wc.cell? ⟨gb213, 0, none⟩ = some (.int .i64 t208) := (blk_cell BK213.out 0).trans rfl
            have hcz15_1 : wc.cell? ⟨gb213, 1, none⟩ = some (.int .i64 t209) := (blk_cell BK213.out 1).trans rfl
            have hcz15_2 : wc.cell? ⟨gb213, 2, none⟩ = some (.bool t210) := (blk_cell BK213.out 2).trans rfl
            have hcz15_3 : wc.cell? ⟨gb213, 3, none⟩ = some (.bool t211) := (blk_cell BK213.out 3).trans rfl
            have hfz15_0 := blk_frozen BK213.out 0
            have hfz15_1 := blk_frozen BK213.out 1
            have hfz15_2 := blk_frozen BK213.out 2
            have hfz15_3 := blk_frozen BK213.out 3
            go_wp2_with (first | ((with_reducible refine gate_callee (f := 11) rfl ?_); refine goesL_ (some 36) rfl rfl Try.func11 (by kernel_rfl) rfl #[.agg #[.int .i64 t208, .int .i64 t209, .bool (a1 == 1), .bool (a2 == 1)]] rfl (by (try simp only [List.map_toArray, List.map_cons, List.map_nil]); first | done | rfl | (simp only [List.length_drop, List.length_take]; rfl)) ?_; (with_reducible refine (millpondref06_Pack.calls kj4 t208 t209 (a1 == 1) (a2 == 1) t214 t215 _ A14.out).mono ?_); rintro e w16 ⟨rfl, hb⟩; refine ⟨_, rfl, ?_⟩; have n0_ := Aside0.mk (blk_below (g := gb213) (o := .cells #[.int .i64 t208, .int .i64 t209, .bool (a1 == 1), .bool (a2 == 1)] 24 (0, 0)) (by (with_reducible repeat (first | refine blk_drewN ?_ _ | refine blk_drew ?_ | refine blk_alloc ?_ _)); refine blk_put (cs := #[.int .i64 t208, .int .i64 t209, .bool (a1 == 1), .bool t211]) ?_ 3 _ rfl; (with_reducible repeat (first | refine blk_drewN ?_ _ | refine blk_drew ?_ | refine blk_alloc ?_ _)); refine blk_put (cs := #[.int .i64 t208, .int .i64 t209, .bool t210, .bool t211]) ?_ 2 _ rfl; (with_reducible repeat (first | refine blk_drewN ?_ _ | refine blk_drew ?_ | refine blk_alloc ?_ _)); exact BK213.out) hb); have n1_ := Aside0.mk (below_step (by repeat (first | (with_reducible first | exact HB.out | apply below_alloc | apply pw_below_drewN | apply below_drew1 | refine below_set ?_ GE213.out) | exact HB.out)) hb); clear BK213; clear HB; have BK213 := n0_; have HB := n1_; clear n0_ n1_; (try clear hb); (try clear hb2); (try clear hk); (try clear hi)))
            go_ret
            exact ⟨by first | rfl | (simp [errW_none, errW_some] <;> rfl) | (simp [*, errW_none, errW_some] <;> rfl), by repeat (first | (with_reducible first | exact HB.out | apply below_alloc | apply pw_below_drewN | apply below_drew1 | refine below_set ?_ GE213.out) | exact HB.out)⟩
          · rw [if_neg c13] at H
            have c13b0 : decide (0 ≤ a2) = false := decide_eq_false c13
            clear c13
            replace H := Option.bind_eq_some_iff.mp H
            obtain ⟨⟨t216, t217⟩, A170, H⟩ := H
            replace H : (some t216) = some r := H
            have A17 := Aside0.mk A170
            clear A170
            obtain rfl := Option.some.inj H
            have hcz18_0 : wc.cell? ⟨gb213, 0, none⟩ = some (.int .i64 t208) := (blk_cell BK213.out 0).trans rfl
            have hcz18_1 : wc.cell? ⟨gb213, 1, none⟩ = some (.int .i64 t209) := (blk_cell BK213.out 1).trans rfl
            have hcz18_2 : wc.cell? ⟨gb213, 2, none⟩ = some (.bool t210) := (blk_cell BK213.out 2).trans rfl
            have hcz18_3 : wc.cell? ⟨gb213, 3, none⟩ = some (.bool t211) := (blk_cell BK213.out 3).trans rfl
            have hfz18_0 := blk_frozen BK213.out 0
            have hfz18_1 := blk_frozen BK213.out 1
            have hfz18_2 := blk_frozen BK213.out 2
            have hfz18_3 := blk_frozen BK213.out 3
            go_wp2_with (first | ((with_reducible refine gate_callee (f := 11) rfl ?_); refine goesL_ (some 36) rfl rfl Try.func11 (by kernel_rfl) rfl #[.agg #[.int .i64 t208, .int .i64 t209, .bool (a1 == 1), .bool t211]] rfl (by (try simp only [List.map_toArray, List.map_cons, List.map_nil]); first | done | rfl | (simp only [List.length_drop, List.length_take]; rfl)) ?_; (with_reducible refine (millpondref06_Pack.calls kj4 t208 t209 (a1 == 1) t211 t216 t217 _ A17.out).mono ?_); rintro e w19 ⟨rfl, hb⟩; refine ⟨_, rfl, ?_⟩; have n0_ := Aside0.mk (blk_below (g := gb213) (o := .cells #[.int .i64 t208, .int .i64 t209, .bool (a1 == 1), .bool t211] 24 (0, 0)) (by (with_reducible repeat (first | refine blk_drewN ?_ _ | refine blk_drew ?_ | refine blk_alloc ?_ _)); refine blk_put (cs := #[.int .i64 t208, .int .i64 t209, .bool t210, .bool t211]) ?_ 2 _ rfl; (with_reducible repeat (first | refine blk_drewN ?_ _ | refine blk_drew ?_ | refine blk_alloc ?_ _)); exact BK213.out) hb); have n1_ := Aside0.mk (below_step (by repeat (first | (with_reducible first | exact HB.out | apply below_alloc | apply pw_below_drewN | apply below_drew1 | refine below_set ?_ GE213.out) | exact HB.out)) hb); clear BK213; clear HB; have BK213 := n0_; have HB := n1_; clear n0_ n1_; (try clear hb); (try clear hb2); (try clear hk); (try clear hi)))
            go_ret
            exact ⟨by first | rfl | (simp [errW_none, errW_some] <;> rfl) | (simp [*, errW_none, errW_some] <;> rfl), by repeat (first | (with_reducible first | exact HB.out | apply below_alloc | apply pw_below_drewN | apply below_drew1 | refine below_set ?_ GE213.out) | exact HB.out)⟩
        · rw [if_neg c12] at H
          have c12b0 : decide (0 ≤ a1) = false := decide_eq_false c12
          clear c12
          by_cases c20 : a2 ≥ 0
          · rw [if_pos c20] at H
            have c20b0 : decide (0 ≤ a2) = true := decide_eq_true c20
            clear c20
            replace H := Option.bind_eq_some_iff.mp H
            obtain ⟨⟨t218, t219⟩, A210, H⟩ := H
            replace H : (some t218) = some r := H
            have A21 := Aside0.mk A210
            clear A210
            obtain rfl := Option.some.inj H
            have hcz22_0 : wc.cell? ⟨gb213, 0, none⟩ = some (.int .i64 t208) := (blk_cell BK213.out 0).trans rfl
            have hcz22_1 : wc.cell? ⟨gb213, 1, none⟩ = some (.int .i64 t209) := (blk_cell BK213.out 1).trans rfl
            have hcz22_2 : wc.cell? ⟨gb213, 2, none⟩ = some (.bool t210) := (blk_cell BK213.out 2).trans rfl
            have hcz22_3 : wc.cell? ⟨gb213, 3, none⟩ = some (.bool t211) := (blk_cell BK213.out 3).trans rfl
            have hfz22_0 := blk_frozen BK213.out 0
            have hfz22_1 := blk_frozen BK213.out 1
            have hfz22_2 := blk_frozen BK213.out 2
            have hfz22_3 := blk_frozen BK213.out 3
            go_wp2_with (first | ((with_reducible refine gate_callee (f := 11) rfl ?_); refine goesL_ (some 36) rfl rfl Try.func11 (by kernel_rfl) rfl #[.agg #[.int .i64 t208, .int .i64 t209, .bool t210, .bool (a2 == 1)]] rfl (by (try simp only [List.map_toArray, List.map_cons, List.map_nil]); first | done | rfl | (simp only [List.length_drop, List.length_take]; rfl)) ?_; (with_reducible refine (millpondref06_Pack.calls kj4 t208 t209 t210 (a2 == 1) t218 t219 _ A21.out).mono ?_); rintro e w23 ⟨rfl, hb⟩; refine ⟨_, rfl, ?_⟩; have n0_ := Aside0.mk (blk_below (g := gb213) (o := .cells #[.int .i64 t208, .int .i64 t209, .bool t210, .bool (a2 == 1)] 24 (0, 0)) (by (with_reducible repeat (first | refine blk_drewN ?_ _ | refine blk_drew ?_ | refine blk_alloc ?_ _)); refine blk_put (cs := #[.int .i64 t208, .int .i64 t209, .bool t210, .bool t211]) ?_ 3 _ rfl; (with_reducible repeat (first | refine blk_drewN ?_ _ | refine blk_drew ?_ | refine blk_alloc ?_ _)); exact BK213.out) hb); have n1_ := Aside0.mk (below_step (by repeat (first | (with_reducible first | exact HB.out | apply below_alloc | apply pw_below_drewN | apply below_drew1 | refine below_set ?_ GE213.out) | exact HB.out)) hb); clear BK213; clear HB; have BK213 := n0_; have HB := n1_; clear n0_ n1_; (try clear hb); (try clear hb2); (try clear hk); (try clear hi)))
            go_ret
            exact ⟨by first | rfl | (simp [errW_none, errW_some] <;> rfl) | (simp [*, errW_none, errW_some] <;> rfl), by repeat (first | (with_reducible first | exact HB.out | apply below_alloc | apply pw_below_drewN | apply below_drew1 | refine below_set ?_ GE213.out) | exact HB.out)⟩
          · rw [if_neg c20] at H
            have c20b0 : decide (0 ≤ a2) = false := decide_eq_false c20
            clear c20
            replace H := Option.bind_eq_some_iff.mp H
            obtain ⟨⟨t220, t221⟩, A240, H⟩ := H
            replace H : (some t220) = some r := H
            have A24 := Aside0.mk A240
            clear A240
            obtain rfl := Option.some.inj H
            have hcz25_0 : wc.cell? ⟨gb213, 0, none⟩ = some (.int .i64 t208) := (blk_cell BK213.out 0).trans rfl
            have hcz25_1 : wc.cell? ⟨gb213, 1, none⟩ = some (.int .i64 t209) := (blk_cell BK213.out 1).trans rfl
            have hcz25_2 : wc.cell? ⟨gb213, 2, none⟩ = some (.bool t210) := (blk_cell BK213.out 2).trans rfl
            have hcz25_3 : wc.cell? ⟨gb213, 3, none⟩ = some (.bool t211) := (blk_cell BK213.out 3).trans rfl
            have hfz25_0 := blk_frozen BK213.out 0
            have hfz25_1 := blk_frozen BK213.out 1
            have hfz25_2 := blk_frozen BK213.out 2
            have hfz25_3 := blk_frozen BK213.out 3
            go_wp2_with (first | ((with_reducible refine gate_callee (f := 11) rfl ?_); refine goesL_ (some 36) rfl rfl Try.func11 (by kernel_rfl) rfl #[.agg #[.int .i64 t208, .int .i64 t209, .bool t210, .bool t211]] rfl (by (try simp only [List.map_toArray, List.map_cons, List.map_nil]); first | done | rfl | (simp only [List.length_drop, List.length_take]; rfl)) ?_; (with_reducible refine (millpondref06_Pack.calls kj4 t208 t209 t210 t211 t220 t221 _ A24.out).mono ?_); rintro e w26 ⟨rfl, hb⟩; refine ⟨_, rfl, ?_⟩; have n0_ := Aside0.mk (blk_below (g := gb213) (o := .cells #[.int .i64 t208, .int .i64 t209, .bool t210, .bool t211] 24 (0, 0)) (by (with_reducible repeat (first | refine blk_drewN ?_ _ | refine blk_drew ?_ | refine blk_alloc ?_ _)); exact BK213.out) hb); have n1_ := Aside0.mk (below_step (by repeat (first | (with_reducible first | exact HB.out | apply below_alloc | apply pw_below_drewN | apply below_drew1 | refine below_set ?_ GE213.out) | exact HB.out)) hb); clear BK213; clear HB; have BK213 := n0_; have HB := n1_; clear n0_ n1_; (try clear hb); (try clear hb2); (try clear hk); (try clear hi)))
            go_ret
            exact ⟨by first | rfl | (simp [errW_none, errW_some] <;> rfl) | (simp [*, errW_none, errW_some] <;> rfl), by repeat (first | (with_reducible first | exact HB.out | apply below_alloc | apply pw_below_drewN | apply below_drew1 | refine below_set ?_ GE213.out) | exact HB.out)⟩

/-! ### millpondref06_Rest: function 15 -/
def millpondref06_Rest.f (k : Nat) (a0 : Int) : Option (Int × Bool) := (millpondref06_Unpack.f k a0).bind fun bt222 => ((millpondref06_with.f k a0 (-1) 0).bind fun t228 => (some (t228, bt222.2.2.2.1)))
theorem millpondref06_Rest.mono : ∀ a0 k, LeO (millpondref06_Rest.f k a0) (millpondref06_Rest.f (k + 1) a0) := by
  intro a0 k
  unfold millpondref06_Rest.f
  repeat' first
      | (with_reducible exact millpondref06_Unpack.mono _ _)
      | (with_reducible exact millpondref06_with.mono _ _ _ _)
      | (with_reducible exact LeO.refl _)
      | (with_reducible exact LeO.none _)
      | (with_reducible refine LeO.ite ?_ ?_)
      | (with_reducible refine LeO.bind ?_ (fun _ => ?_))
      | exact millpondref06_Unpack.mono _ _
      | exact millpondref06_with.mono _ _ _ _
      | exact LeO.none _
      | refine LeO.ite ?_ ?_
      | refine LeO.bind ?_ (fun _ => ?_)
set_option maxHeartbeats 8000000 in
set_option maxRecDepth 100000 in
theorem millpondref06_Rest.calls (k : Nat) (a0 : Int) (r1 : Int) (r2 : Bool) (w : World) (h : millpondref06_Rest.f k a0 = some (r1, r2)) :
    Calls Try.prog 15 #[.int .u64 a0] w fun e w' => e = .returned (.tuple #[.int .u64 r1, .bool r2]) ∧ Below w.heap.size w w' := by
  have hu24 := Try.underlying24
  have HB := Aside0.mk (Below.refl w.heap.size w)
  have H : ((millpondref06_Unpack.f k a0).bind fun bt222 => ((millpondref06_with.f k a0 (-1) 0).bind fun t228 => (some (t228, bt222.2.2.2.1)))) = some (r1, r2) := h
  clear h
  replace H := Option.bind_eq_some_iff.mp H
  obtain ⟨⟨t222, t223, t224, t225, t226⟩, A20, H⟩ := H
  replace H : ((millpondref06_with.f k a0 (-1) 0).bind fun t228 => (some (t228, t225))) = some (r1, r2) := H
  have A2 := Aside0.mk A20
  clear A20
  replace H := Option.bind_eq_some_iff.mp H
  obtain ⟨t228, A30, H⟩ := H
  replace H : (some (t228, t225)) = some (r1, r2) := H
  have A3 := Aside0.mk A30
  clear A30
  simp only [Option.some.injEq, Prod.mk.injEq] at H
  obtain ⟨rfl, rfl⟩ := H
  go_enter Try.func15, Try.ntmps15
  try go_wp2_with (first | ((with_reducible refine gate_callee (f := 13) rfl ?_); refine goesL_ (some 8) rfl rfl Try.func13 (by kernel_rfl) rfl #[.int .u64 a0] rfl (by (try simp only [List.map_toArray, List.map_cons, List.map_nil]); first | done | rfl | (simp only [List.length_drop, List.length_take]; rfl)) ?_; (with_reducible refine (millpondref06_Unpack.calls k a0 t222 t223 t224 t225 t226 _ A2.out).mono ?_); rintro e w4 ⟨rfl, hb⟩; refine ⟨_, rfl, ?_⟩; have n0_ := Aside0.mk (below_step (by repeat (first | (with_reducible first | exact HB.out | apply below_alloc | apply pw_below_drewN | apply below_drew1) | exact HB.out)) hb); clear HB; have HB := n0_; clear n0_; (try clear hb); (try clear hb2); (try clear hk); (try clear hi)) | ((with_reducible refine gate_dst (N := 4) rfl ?_); refine box_event ?hg (N := 4) ?hd (cs := #[.int .i64 0, .int .i64 0, .bool false, .bool false]) (t := 24) ?hr ?_; (case hd => rfl); (case hg => rfl); (case hr => first | (go_simp; done) | (go_simp; rfl)); intro gb227 hg w5 hbox hb; have n0_ := Aside0.mk (below_step (by repeat (first | (with_reducible first | exact HB.out | apply below_alloc | apply pw_below_drewN | apply below_drew1) | exact HB.out)) hb); have n1_ := Aside0.mk (hbox); have n2_ := Aside0.mk ((by rw [hg]; exact (below_size (by repeat (first | (with_reducible first | exact HB.out | apply below_alloc | apply pw_below_drewN | apply below_drew1) | exact HB.out))) : w.heap.size ≤ gb227)); have n3_ := Aside0.mk ((by rw [hg]; exact (below_size (by repeat (first | (with_reducible first | exact HB.out | apply below_alloc | apply pw_below_drewN | apply below_drew1) | exact HB.out))) : w.heap.size ≤ gb227)); clear HB; have HB := n0_; have BK227 := n1_; have GW227 := n2_; have GE227 := n3_; clear n0_ n1_ n2_ n3_; clear hb hbox hg; have hcz6_0 : w5.cell? ⟨gb227, 0, none⟩ = some (.int .i64 0) := (blk_cell BK227.out 0).trans rfl; have hcz6_1 : w5.cell? ⟨gb227, 1, none⟩ = some (.int .i64 0) := (blk_cell BK227.out 1).trans rfl; have hcz6_2 : w5.cell? ⟨gb227, 2, none⟩ = some (.bool false) := (blk_cell BK227.out 2).trans rfl; have hcz6_3 : w5.cell? ⟨gb227, 3, none⟩ = some (.bool false) := (blk_cell BK227.out 3).trans rfl; have hfz6_0 := blk_frozen BK227.out 0; have hfz6_1 := blk_frozen BK227.out 1; have hfz6_2 := blk_frozen BK227.out 2; have hfz6_3 := blk_frozen BK227.out 3))
  have n0_ : Aside0 (((((w5.setCell ⟨gb227, 0, none⟩ (.int .i64 t222)).setCell ⟨gb227, 1, none⟩ (.int .i64 t223)).setCell ⟨gb227, 2, none⟩ (.bool t224)).setCell ⟨gb227, 3, none⟩ (.bool t225)).heap[gb227]? = some (.cells #[.int .i64 t222, .int .i64 t223, .bool t224, .bool t225] 24 (0, 0))) := ⟨by (with_reducible repeat (first | refine blk_drewN ?_ _ | refine blk_drew ?_ | refine blk_alloc ?_ _)); refine blk_put (cs := #[.int .i64 t222, .int .i64 t223, .bool t224, .bool false]) ?_ 3 _ rfl; (with_reducible repeat (first | refine blk_drewN ?_ _ | refine blk_drew ?_ | refine blk_alloc ?_ _)); refine blk_put (cs := #[.int .i64 t222, .int .i64 t223, .bool false, .bool false]) ?_ 2 _ rfl; (with_reducible repeat (first | refine blk_drewN ?_ _ | refine blk_drew ?_ | refine blk_alloc ?_ _)); refine blk_put (cs := #[.int .i64 t222, .int .i64 0, .bool false, .bool false]) ?_ 1 _ rfl; (with_reducible repeat (first | refine blk_drewN ?_ _ | refine blk_drew ?_ | refine blk_alloc ?_ _)); refine blk_put (cs := #[.int .i64 0, .int .i64 0, .bool false, .bool false]) ?_ 0 _ rfl; (with_reducible repeat (first | refine blk_drewN ?_ _ | refine blk_drew ?_ | refine blk_alloc ?_ _)); exact BK227.out⟩
  have n1_ : Aside0 (Below w.heap.size w ((((w5.setCell ⟨gb227, 0, none⟩ (.int .i64 t222)).setCell ⟨gb227, 1, none⟩ (.int .i64 t223)).setCell ⟨gb227, 2, none⟩ (.bool t224)).setCell ⟨gb227, 3, none⟩ (.bool t225))) := ⟨by repeat (first | (with_reducible first | exact HB.out | apply below_alloc | apply pw_below_drewN | apply below_drew1 | refine below_set ?_ GE227.out) | exact HB.out)⟩
  (try clear BK227)
  (try clear HB)
  generalize ((((w5.setCell ⟨gb227, 0, none⟩ (.int .i64 t222)).setCell ⟨gb227, 1, none⟩ (.int .i64 t223)).setCell ⟨gb227, 2, none⟩ (.bool t224)).setCell ⟨gb227, 3, none⟩ (.bool t225)) = w7 at n0_ n1_ ⊢
  have BK227 := n0_
  have HB := n1_
  clear n0_ n1_
  have n0_ := Aside0.mk (blk_drew BK227.out)
  have n1_ := Aside0.mk (below_drew1 HB.out)
  clear BK227
  clear HB
  have BK227 := n0_
  have HB := n1_
  clear n0_ n1_
  refine start_ (n := 6) (S := fun w' => w'.cell? ⟨gb227, 0, none⟩ = some (.int .i64 t222) ∧ w'.cell? ⟨gb227, 1, none⟩ = some (.int .i64 t223) ∧ w'.cell? ⟨gb227, 2, none⟩ = some (.bool t224) ∧ w'.cell? ⟨gb227, 3, none⟩ = some (.bool t225)) (ds := []) #[false, false, false, false, false, false] (by kernel_rfl) rfl rfl ⟨(blk_cell BK227.out 0).trans rfl, (blk_cell BK227.out 1).trans rfl, (blk_cell BK227.out 2).trans rfl, (blk_cell BK227.out 3).trans rfl⟩ (fun hHeld => ?_)
  generalize w7.drew = w8 at BK227 HB hHeld ⊢
  refine pure_ (i := 0) (N := some 11) (v := ?_) (a' := ?_) #[true, false, false, false, false, false] rfl rfl (by kernel_rfl) (fun _ _ _ h => h) (Or.inl ⟨by rfl, ?_⟩) ?_ ?_
  rotate_left
  · intro w'
    go_simp
    with_reducible rfl
  rotate_left
  · simp only [Act.put, List.setIfInBounds_toArray, List.set_cons_zero, List.set_cons_succ, i64_w, i32_w]
    rfl
  refine pure_ (i := 2) (N := some 13) (v := ?_) (a' := ?_) #[true, false, true, false, false, false] rfl rfl (by kernel_rfl) (fun _ _ _ h => h) (Or.inl ⟨by rfl, ?_⟩) ?_ ?_
  rotate_left
  · intro w'
    go_simp
    with_reducible rfl
  rotate_left
  · simp only [Act.put, List.setIfInBounds_toArray, List.set_cons_zero, List.set_cons_succ, i64_w, i32_w]
    rfl
  refine take_ (i := 3) (N := some 14) (v := ?_) (a' := ?_) #[true, false, true, true, false, false] rfl rfl (by kernel_rfl) (fun _ _ _ h => h) (Or.inl ⟨by rfl, ?_⟩) hHeld ?_ ?_
  rotate_left
  · rintro w' ⟨s0, s1, s2, s3⟩
    go_simp
    with_reducible rfl
  rotate_left
  · simp only [Act.put, List.setIfInBounds_toArray, List.set_cons_zero, List.set_cons_succ, i64_w, i32_w]
    rfl
  refine one_ (i := 1) (N := some 12) #[true, true, true, true, false, false] rfl rfl (by kernel_rfl) (by decide) (fun K hK => ?_)
  refine goes_ Try.func29 (by kernel_rfl) rfl #[.int .u64 a0, .int .i64 (-1), .int .i64 0] (by rfl) rfl rfl (by (try simp only [List.map_toArray, List.map_cons, List.map_nil]); first | done | rfl | (simp only [List.length_drop, List.length_take]; rfl)) ?_
  with_reducible refine (millpondref06_with.calls k a0 (-1) 0 t228 _ A3.out).mono ?_
  rintro e w9 ⟨rfl, hb⟩
  refine ⟨_, rfl, ?_⟩
  have n0_ := Aside0.mk (blk_below (g := gb227) (o := .cells #[.int .i64 t222, .int .i64 t223, .bool t224, .bool t225] 24 (0, 0)) (by (with_reducible repeat (first | refine blk_drewN ?_ _ | refine blk_drew ?_ | refine blk_alloc ?_ _)); exact BK227.out) hb)
  have n1_ := Aside0.mk (below_step (by repeat (first | (with_reducible first | exact HB.out | apply below_alloc | apply pw_below_drewN | apply below_drew1 | refine below_set ?_ GE227.out) | exact HB.out)) hb)
  clear BK227
  clear HB
  have BK227 := n0_
  have HB := n1_
  clear n0_ n1_
  (try clear hb)
  (try clear hb2)
  (try clear hk)
  (try clear hi)
  refine hK.out _ _ ⟨(blk_cell BK227.out 0).trans rfl, (blk_cell BK227.out 1).trans rfl, (blk_cell BK227.out 2).trans rfl, (blk_cell BK227.out 3).trans rfl⟩ (fun hHeld => ?_)
  clear hK K
  refine norm_ (a' := ?_) ?_ ?_
  rotate_left
  · show Act.put _ (some 12) _ = _
    simp only [Act.put, List.setIfInBounds_toArray, List.set_cons_zero, List.set_cons_succ, i64_w, i32_w]
    rfl
  refine pure_ (i := 4) (N := some 2) (v := ?_) (a' := ?_) #[true, true, true, true, true, false] rfl rfl (by kernel_rfl) (fun _ _ _ h => h) (Or.inl ⟨by rfl, ?_⟩) ?_ ?_
  rotate_left
  · intro w'
    go_simp
    with_reducible rfl
  rotate_left
  · simp only [Act.put, List.setIfInBounds_toArray, List.set_cons_zero, List.set_cons_succ, i64_w, i32_w]
    rfl
  refine pure_ (i := 5) (N := some 3) (v := ?_) (a' := ?_) #[true, true, true, true, true, true] rfl rfl (by kernel_rfl) (fun _ _ _ h => h) (Or.inl ⟨by rfl, ?_⟩) ?_ ?_
  rotate_left
  · intro w'
    go_simp
    with_reducible rfl
  rotate_left
  · simp only [Act.put, List.setIfInBounds_toArray, List.set_cons_zero, List.set_cons_succ, i64_w, i32_w]
    rfl
  refine done_ (by kernel_rfl) ?_
  try go_wp2
  go_ret2
  exact ⟨by first | rfl | (simp [errW_none, errW_some] <;> rfl) | (simp [*, errW_none, errW_some] <;> rfl), by repeat (first | (with_reducible first | exact HB.out | apply below_alloc | apply pw_below_drewN | apply below_drew1 | refine below_set ?_ GE227.out) | exact HB.out)⟩

/-! ### millpondref06_Touch: function 17 -/
def millpondref06_Touch.f (k : Nat) (a0 : Int) : Option (Int) := (millpondref06_with.f k a0 (-1) 1).bind fun t229 => (some t229)
theorem millpondref06_Touch.mono : ∀ a0 k, LeO (millpondref06_Touch.f k a0) (millpondref06_Touch.f (k + 1) a0) := by
  intro a0 k
  unfold millpondref06_Touch.f
  repeat' first
      | (with_reducible exact millpondref06_with.mono _ _ _ _)
      | (with_reducible exact LeO.refl _)
      | (with_reducible exact LeO.none _)
      | (with_reducible refine LeO.ite ?_ ?_)
      | (with_reducible refine LeO.bind ?_ (fun _ => ?_))
      | exact millpondref06_with.mono _ _ _ _
      | exact LeO.none _
      | refine LeO.ite ?_ ?_
      | refine LeO.bind ?_ (fun _ => ?_)
set_option maxHeartbeats 8000000 in
set_option maxRecDepth 100000 in
theorem millpondref06_Touch.calls (k : Nat) (a0 : Int) (r : Int) (w : World) (h : millpondref06_Touch.f k a0 = some r) :
    Calls Try.prog 17 #[.int .u64 a0] w fun e w' => e = .returned (.int .u64 r) ∧ Below w.heap.size w w' := by
  have HB := Aside0.mk (Below.refl w.heap.size w)
  have H : ((millpondref06_with.f k a0 (-1) 1).bind fun t229 => (some t229)) = some r := h
  clear h
  replace H := Option.bind_eq_some_iff.mp H
  obtain ⟨t229, A20, H⟩ := H
  replace H : (some t229) = some r := H
  have A2 := Aside0.mk A20
  clear A20
  obtain rfl := Option.some.inj H
  go_enter Try.func17, Try.ntmps17
  go_wp2_with (first | ((with_reducible refine gate_callee (f := 29) rfl ?_); refine goesL_ (some 4) rfl rfl Try.func29 (by kernel_rfl) rfl #[.int .u64 a0, .int .i64 (-1), .int .i64 1] rfl (by (try simp only [List.map_toArray, List.map_cons, List.map_nil]); first | done | rfl | (simp only [List.length_drop, List.length_take]; rfl)) ?_; (with_reducible refine (millpondref06_with.calls k a0 (-1) 1 t229 _ A2.out).mono ?_); rintro e w3 ⟨rfl, hb⟩; refine ⟨_, rfl, ?_⟩; have n0_ := Aside0.mk (below_step (by repeat (first | (with_reducible first | exact HB.out | apply below_alloc | apply pw_below_drewN | apply below_drew1) | exact HB.out)) hb); clear HB; have HB := n0_; clear n0_; (try clear hb); (try clear hb2); (try clear hk); (try clear hi)))
  go_ret
  exact ⟨by first | rfl | (simp [errW_none, errW_some] <;> rfl) | (simp [*, errW_none, errW_some] <;> rfl), by repeat (first | (with_reducible first | exact HB.out | apply below_alloc | apply pw_below_drewN | apply below_drew1) | exact HB.out)⟩

/-! ### millpondref06_Write: function 19 -/
def millpondref06_Write.f (k : Nat) (a0 : Int) (a1 : Bool) : Option (Int) := (millpondref06_bit.f a1).bind fun t230 => ((millpondref06_with.f k a0 t230 (-1)).bind fun t231 => (some t231))
theorem millpondref06_Write.mono : ∀ a0 a1 k, LeO (millpondref06_Write.f k a0 a1) (millpondref06_Write.f (k + 1) a0 a1) := by
  intro a0 a1 k
  unfold millpondref06_Write.f
  repeat' first
      | (with_reducible exact millpondref06_with.mono _ _ _ _)
      | (with_reducible exact LeO.refl _)
      | (with_reducible exact LeO.none _)
      | (with_reducible refine LeO.ite ?_ ?_)
      | (with_reducible refine LeO.bind ?_ (fun _ => ?_))
      | exact millpondref06_with.mono _ _ _ _
      | exact LeO.none _
      | refine LeO.ite ?_ ?_
      | refine LeO.bind ?_ (fun _ => ?_)
set_option maxHeartbeats 8000000 in
set_option maxRecDepth 100000 in
theorem millpondref06_Write.calls (k : Nat) (a0 : Int) (a1 : Bool) (r : Int) (w : World) (h : millpondref06_Write.f k a0 a1 = some r) :
    Calls Try.prog 19 #[.int .u64 a0, .bool a1] w fun e w' => e = .returned (.int .u64 r) ∧ Below w.heap.size w w' := by
  have HB := Aside0.mk (Below.refl w.heap.size w)
  have H : ((millpondref06_bit.f a1).bind fun t230 => ((millpondref06_with.f k a0 t230 (-1)).bind fun t231 => (some t231))) = some r := h
  clear h
  replace H := Option.bind_eq_some_iff.mp H
  obtain ⟨t230, A30, H⟩ := H
  replace H : ((millpondref06_with.f k a0 t230 (-1)).bind fun t231 => (some t231)) = some r := H
  have A3 := Aside0.mk A30
  clear A30
  replace H := Option.bind_eq_some_iff.mp H
  obtain ⟨t231, A40, H⟩ := H
  replace H : (some t231) = some r := H
  have A4 := Aside0.mk A40
  clear A40
  obtain rfl := Option.some.inj H
  go_enter Try.func19, Try.ntmps19
  go_wp2_with (first | ((with_reducible refine gate_callee (f := 25) rfl ?_); refine goesL_ (some 7) rfl rfl Try.func25 (by kernel_rfl) rfl #[.bool a1] rfl (by (try simp only [List.map_toArray, List.map_cons, List.map_nil]); first | done | rfl | (simp only [List.length_drop, List.length_take]; rfl)) ?_; (with_reducible refine (millpondref06_bit.calls a1 t230 _ A3.out).mono ?_); rintro e w' ⟨rfl, ⟨nd, rfl⟩⟩; refine ⟨_, rfl, ?_⟩) | ((with_reducible refine gate_callee (f := 29) rfl ?_); refine goesL_ (some 8) rfl rfl Try.func29 (by kernel_rfl) rfl #[.int .u64 a0, .int .i64 t230, .int .i64 (-1)] rfl (by (try simp only [List.map_toArray, List.map_cons, List.map_nil]); first | done | rfl | (simp only [List.length_drop, List.length_take]; rfl)) ?_; (with_reducible refine (millpondref06_with.calls k a0 t230 (-1) t231 _ A4.out).mono ?_); rintro e w5 ⟨rfl, hb⟩; refine ⟨_, rfl, ?_⟩; have n0_ := Aside0.mk (below_step (by repeat (first | (with_reducible first | exact HB.out | apply below_alloc | apply pw_below_drewN | apply below_drew1) | exact HB.out)) hb); clear HB; have HB := n0_; clear n0_; (try clear hb); (try clear hb2); (try clear hk); (try clear hi)))
  go_ret
  exact ⟨by first | rfl | (simp [errW_none, errW_some] <;> rfl) | (simp [*, errW_none, errW_some] <;> rfl), by repeat (first | (with_reducible first | exact HB.out | apply below_alloc | apply pw_below_drewN | apply below_drew1) | exact HB.out)⟩

/-! ### millpondlaw06_EntryTurns: function 4 -/
def millpondlaw06_EntryTurns.f (k : Nat) (a0 : Int) (a1 : Bool) : Option (Bool) := (millpondlaw06_works.f k).bind fun t232 => (if t232 = true then ((entry_Rest.f k a0).bind fun bt233 => ((millpondref06_Rest.f k a0).bind fun bt235 => ((entry_Touch.f k a0).bind fun t237 => ((millpondref06_Touch.f k a0).bind fun t238 => (if t237 = t238 then (if bt233.1 = bt235.1 then (if (bt233.2 == bt235.2) = true then ((entry_Write.f k a0 a1).bind fun t239 => ((millpondref06_Write.f k a0 a1).bind fun t240 => (some (t239 == t240)))) else (some false)) else (some false)) else (some false)))))) else (some false))
theorem millpondlaw06_EntryTurns.mono : ∀ a0 a1 k, LeO (millpondlaw06_EntryTurns.f k a0 a1) (millpondlaw06_EntryTurns.f (k + 1) a0 a1) := by
  intro a0 a1 k
  unfold millpondlaw06_EntryTurns.f
  repeat' first
      | (with_reducible exact entry_Rest.mono _ _)
      | (with_reducible exact entry_Touch.mono _ _)
      | (with_reducible exact entry_Write.mono _ _ _)
      | (with_reducible exact millpondlaw06_works.mono _)
      | (with_reducible exact millpondref06_Rest.mono _ _)
      | (with_reducible exact millpondref06_Touch.mono _ _)
      | (with_reducible exact millpondref06_Write.mono _ _ _)
      | (with_reducible exact LeO.refl _)
      | (with_reducible exact LeO.none _)
      | (with_reducible refine LeO.ite ?_ ?_)
      | (with_reducible refine LeO.bind ?_ (fun _ => ?_))
      | exact entry_Rest.mono _ _
      | exact entry_Touch.mono _ _
      | exact entry_Write.mono _ _ _
      | exact millpondlaw06_works.mono _
      | exact millpondref06_Rest.mono _ _
      | exact millpondref06_Touch.mono _ _
      | exact millpondref06_Write.mono _ _ _
      | exact LeO.none _
      | refine LeO.ite ?_ ?_
      | refine LeO.bind ?_ (fun _ => ?_)
set_option maxHeartbeats 8000000 in
set_option maxRecDepth 100000 in
theorem millpondlaw06_EntryTurns.calls (k : Nat) (a0 : Int) (a1 : Bool) (r : Bool) (w : World) (h : millpondlaw06_EntryTurns.f k a0 a1 = some r) :
    Calls Try.prog 4 #[.int .u64 a0, .bool a1] w fun e w' => e = .returned (.bool r) ∧ Below w.heap.size w w' := by
  have HB := Aside0.mk (Below.refl w.heap.size w)
  have H : ((millpondlaw06_works.f k).bind fun t232 => (if t232 = true then ((entry_Rest.f k a0).bind fun bt233 => ((millpondref06_Rest.f k a0).bind fun bt235 => ((entry_Touch.f k a0).bind fun t237 => ((millpondref06_Touch.f k a0).bind fun t238 => (if t237 = t238 then (if bt233.1 = bt235.1 then (if (bt233.2 == bt235.2) = true then ((entry_Write.f k a0 a1).bind fun t239 => ((millpondref06_Write.f k a0 a1).bind fun t240 => (some (t239 == t240)))) else (some false)) else (some false)) else (some false)))))) else (some false))) = some r := h
  clear h
  replace H := Option.bind_eq_some_iff.mp H
  obtain ⟨t232, A30, H⟩ := H
  replace H : (if t232 = true then ((entry_Rest.f k a0).bind fun bt233 => ((millpondref06_Rest.f k a0).bind fun bt235 => ((entry_Touch.f k a0).bind fun t237 => ((millpondref06_Touch.f k a0).bind fun t238 => (if t237 = t238 then (if bt233.1 = bt235.1 then (if (bt233.2 == bt235.2) = true then ((entry_Write.f k a0 a1).bind fun t239 => ((millpondref06_Write.f k a0 a1).bind fun t240 => (some (t239 == t240)))) else (some false)) else (some false)) else (some false)))))) else (some false)) = some r := H
  have A3 := Aside0.mk A30
  clear A30
  by_cases c4 : t232 = true
  · subst c4
    have H1 : ((entry_Rest.f k a0).bind fun bt233 => ((millpondref06_Rest.f k a0).bind fun bt235 => ((entry_Touch.f k a0).bind fun t237 => ((millpondref06_Touch.f k a0).bind fun t238 => (if t237 = t238 then (if bt233.1 = bt235.1 then (if (bt233.2 == bt235.2) = true then ((entry_Write.f k a0 a1).bind fun t239 => ((millpondref06_Write.f k a0 a1).bind fun t240 => (some (t239 == t240)))) else (some false)) else (some false)) else (some false)))))) = some r := by rw [if_pos rfl] at H; exact H
    clear H
    have H := H1
    clear H1
    replace H := Option.bind_eq_some_iff.mp H
    obtain ⟨⟨t233, t234⟩, A50, H⟩ := H
    replace H : ((millpondref06_Rest.f k a0).bind fun bt235 => ((entry_Touch.f k a0).bind fun t237 => ((millpondref06_Touch.f k a0).bind fun t238 => (if t237 = t238 then (if t233 = bt235.1 then (if (t234 == bt235.2) = true then ((entry_Write.f k a0 a1).bind fun t239 => ((millpondref06_Write.f k a0 a1).bind fun t240 => (some (t239 == t240)))) else (some false)) else (some false)) else (some false))))) = some r := H
    have A5 := Aside0.mk A50
    clear A50
    replace H := Option.bind_eq_some_iff.mp H
    obtain ⟨⟨t235, t236⟩, A60, H⟩ := H
    replace H : ((entry_Touch.f k a0).bind fun t237 => ((millpondref06_Touch.f k a0).bind fun t238 => (if t237 = t238 then (if t233 = t235 then (if (t234 == t236) = true then ((entry_Write.f k a0 a1).bind fun t239 => ((millpondref06_Write.f k a0 a1).bind fun t240 => (some (t239 == t240)))) else (some false)) else (some false)) else (some false)))) = some r := H
    have A6 := Aside0.mk A60
    clear A60
    replace H := Option.bind_eq_some_iff.mp H
    obtain ⟨t237, A70, H⟩ := H
    replace H : ((millpondref06_Touch.f k a0).bind fun t238 => (if t237 = t238 then (if t233 = t235 then (if (t234 == t236) = true then ((entry_Write.f k a0 a1).bind fun t239 => ((millpondref06_Write.f k a0 a1).bind fun t240 => (some (t239 == t240)))) else (some false)) else (some false)) else (some false))) = some r := H
    have A7 := Aside0.mk A70
    clear A70
    replace H := Option.bind_eq_some_iff.mp H
    obtain ⟨t238, A80, H⟩ := H
    replace H : (if t237 = t238 then (if t233 = t235 then (if (t234 == t236) = true then ((entry_Write.f k a0 a1).bind fun t239 => ((millpondref06_Write.f k a0 a1).bind fun t240 => (some (t239 == t240)))) else (some false)) else (some false)) else (some false)) = some r := H
    have A8 := Aside0.mk A80
    clear A80
    by_cases c9 : t237 = t238
    · rw [if_pos c9] at H
      have c9b0 : (t237 == t238) = true := beq_iff_eq.mpr c9
      have c9b1 : (t237 != t238) = false := bne_eq_false_iff_eq.mpr c9
      clear c9
      by_cases c10 : t233 = t235
      · rw [if_pos c10] at H
        have c10b0 : (t233 == t235) = true := beq_iff_eq.mpr c10
        have c10b1 : (t233 != t235) = false := bne_eq_false_iff_eq.mpr c10
        clear c10
        by_cases c11 : (t234 == t236) = true
        · rw [if_pos c11] at H
          have c11b0 : (t234 == t236) = true := c11
          (try (have c11b1 : decide (t234 = t236) = true := by simpa using c11))
          (try (have c11b2 : (t234 == t236) = true := by simpa using c11))
          clear c11
          replace H := Option.bind_eq_some_iff.mp H
          obtain ⟨t239, A120, H⟩ := H
          replace H : ((millpondref06_Write.f k a0 a1).bind fun t240 => (some (t239 == t240))) = some r := H
          have A12 := Aside0.mk A120
          clear A120
          replace H := Option.bind_eq_some_iff.mp H
          obtain ⟨t240, A130, H⟩ := H
          replace H : (some (t239 == t240)) = some r := H
          have A13 := Aside0.mk A130
          clear A130
          obtain rfl := Option.some.inj H
          go_enter Try.func4, Try.ntmps4
          go_wp2_with (first | ((with_reducible refine gate_callee (f := 9) rfl ?_); refine goesL_ (some 10) rfl rfl Try.func9 (by kernel_rfl) rfl #[] rfl (by (try simp only [List.map_toArray, List.map_cons, List.map_nil]); first | done | rfl | (simp only [List.length_drop, List.length_take]; rfl)) ?_; (with_reducible refine (millpondlaw06_works.calls k  true _ A3.out).mono ?_); rintro e w14 ⟨rfl, hb⟩; refine ⟨_, rfl, ?_⟩; have n0_ := Aside0.mk (below_step (by repeat (first | (with_reducible first | exact HB.out | apply below_alloc | apply pw_below_drewN | apply below_drew1) | exact HB.out)) hb); clear HB; have HB := n0_; clear n0_; (try clear hb); (try clear hb2); (try clear hk); (try clear hi)) | ((with_reducible refine gate_callee (f := 14) rfl ?_); refine goesL_ (some 15) rfl rfl Try.func14 (by kernel_rfl) rfl #[.int .u64 a0] rfl (by (try simp only [List.map_toArray, List.map_cons, List.map_nil]); first | done | rfl | (simp only [List.length_drop, List.length_take]; rfl)) ?_; (with_reducible refine (entry_Rest.calls k a0 t233 t234 _ A5.out).mono ?_); rintro e w15 ⟨rfl, hb⟩; refine ⟨_, rfl, ?_⟩; have n0_ := Aside0.mk (below_step (by repeat (first | (with_reducible first | exact HB.out | apply below_alloc | apply pw_below_drewN | apply below_drew1) | exact HB.out)) hb); clear HB; have HB := n0_; clear n0_; (try clear hb); (try clear hb2); (try clear hk); (try clear hi)) | ((with_reducible refine gate_callee (f := 15) rfl ?_); refine goesL_ (some 20) rfl rfl Try.func15 (by kernel_rfl) rfl #[.int .u64 a0] rfl (by (try simp only [List.map_toArray, List.map_cons, List.map_nil]); first | done | rfl | (simp only [List.length_drop, List.length_take]; rfl)) ?_; (with_reducible refine (millpondref06_Rest.calls k a0 t235 t236 _ A6.out).mono ?_); rintro e w16 ⟨rfl, hb⟩; refine ⟨_, rfl, ?_⟩; have n0_ := Aside0.mk (below_step (by repeat (first | (with_reducible first | exact HB.out | apply below_alloc | apply pw_below_drewN | apply below_drew1) | exact HB.out)) hb); clear HB; have HB := n0_; clear n0_; (try clear hb); (try clear hb2); (try clear hk); (try clear hi)) | (go_at_call 16; (with_reducible refine (entry_Touch.calls k a0 t237 _ A7.out).mono ?_); rintro e w17 ⟨rfl, hb⟩; have n0_ := Aside0.mk (below_step (by repeat (first | (with_reducible first | exact HB.out | apply below_alloc | apply pw_below_drewN | apply below_drew1) | exact HB.out)) hb); clear HB; have HB := n0_; clear n0_; (try clear hb); (try clear hb2); (try clear hk); (try clear hi)) | (go_at_call 17; (with_reducible refine (millpondref06_Touch.calls k a0 t238 _ A8.out).mono ?_); rintro e w18 ⟨rfl, hb⟩; have n0_ := Aside0.mk (below_step (by repeat (first | (with_reducible first | exact HB.out | apply below_alloc | apply pw_below_drewN | apply below_drew1) | exact HB.out)) hb); clear HB; have HB := n0_; clear n0_; (try clear hb); (try clear hb2); (try clear hk); (try clear hi)) | (go_at_call 18; (with_reducible refine (entry_Write.calls k a0 a1 t239 _ A12.out).mono ?_); rintro e w19 ⟨rfl, hb⟩; have n0_ := Aside0.mk (below_step (by repeat (first | (with_reducible first | exact HB.out | apply below_alloc | apply pw_below_drewN | apply below_drew1) | exact HB.out)) hb); clear HB; have HB := n0_; clear n0_; (try clear hb); (try clear hb2); (try clear hk); (try clear hi)) | (go_at_call 19; (with_reducible refine (millpondref06_Write.calls k a0 a1 t240 _ A13.out).mono ?_); rintro e w20 ⟨rfl, hb⟩; have n0_ := Aside0.mk (below_step (by repeat (first | (with_reducible first | exact HB.out | apply below_alloc | apply pw_below_drewN | apply below_drew1) | exact HB.out)) hb); clear HB; have HB := n0_; clear n0_; (try clear hb); (try clear hb2); (try clear hk); (try clear hi)))
          go_ret
          exact ⟨by first | rfl | (simp [errW_none, errW_some] <;> rfl) | (simp [*, errW_none, errW_some] <;> rfl), by repeat (first | (with_reducible first | exact HB.out | apply below_alloc | apply pw_below_drewN | apply below_drew1) | exact HB.out)⟩
        · rw [if_neg c11] at H
          have c11b0 : (t234 == t236) = false := by simpa using c11
          (try (have c11b1 : decide (t234 = t236) = false := by simpa using c11))
          (try (have c11b2 : (t234 == t236) = false := by simpa using c11))
          (try (have c11b3 : ¬ (t234 = t236) := by simpa using c11))
          clear c11
          obtain rfl := Option.some.inj H
          go_enter Try.func4, Try.ntmps4
          go_wp2_with (first | ((with_reducible refine gate_callee (f := 9) rfl ?_); refine goesL_ (some 10) rfl rfl Try.func9 (by kernel_rfl) rfl #[] rfl (by (try simp only [List.map_toArray, List.map_cons, List.map_nil]); first | done | rfl | (simp only [List.length_drop, List.length_take]; rfl)) ?_; (with_reducible refine (millpondlaw06_works.calls k  true _ A3.out).mono ?_); rintro e w21 ⟨rfl, hb⟩; refine ⟨_, rfl, ?_⟩; have n0_ := Aside0.mk (below_step (by repeat (first | (with_reducible first | exact HB.out | apply below_alloc | apply pw_below_drewN | apply below_drew1) | exact HB.out)) hb); clear HB; have HB := n0_; clear n0_; (try clear hb); (try clear hb2); (try clear hk); (try clear hi)) | ((with_reducible refine gate_callee (f := 14) rfl ?_); refine goesL_ (some 15) rfl rfl Try.func14 (by kernel_rfl) rfl #[.int .u64 a0] rfl (by (try simp only [List.map_toArray, List.map_cons, List.map_nil]); first | done | rfl | (simp only [List.length_drop, List.length_take]; rfl)) ?_; (with_reducible refine (entry_Rest.calls k a0 t233 t234 _ A5.out).mono ?_); rintro e w22 ⟨rfl, hb⟩; refine ⟨_, rfl, ?_⟩; have n0_ := Aside0.mk (below_step (by repeat (first | (with_reducible first | exact HB.out | apply below_alloc | apply pw_below_drewN | apply below_drew1) | exact HB.out)) hb); clear HB; have HB := n0_; clear n0_; (try clear hb); (try clear hb2); (try clear hk); (try clear hi)) | ((with_reducible refine gate_callee (f := 15) rfl ?_); refine goesL_ (some 20) rfl rfl Try.func15 (by kernel_rfl) rfl #[.int .u64 a0] rfl (by (try simp only [List.map_toArray, List.map_cons, List.map_nil]); first | done | rfl | (simp only [List.length_drop, List.length_take]; rfl)) ?_; (with_reducible refine (millpondref06_Rest.calls k a0 t235 t236 _ A6.out).mono ?_); rintro e w23 ⟨rfl, hb⟩; refine ⟨_, rfl, ?_⟩; have n0_ := Aside0.mk (below_step (by repeat (first | (with_reducible first | exact HB.out | apply below_alloc | apply pw_below_drewN | apply below_drew1) | exact HB.out)) hb); clear HB; have HB := n0_; clear n0_; (try clear hb); (try clear hb2); (try clear hk); (try clear hi)) | (go_at_call 16; (with_reducible refine (entry_Touch.calls k a0 t237 _ A7.out).mono ?_); rintro e w24 ⟨rfl, hb⟩; have n0_ := Aside0.mk (below_step (by repeat (first | (with_reducible first | exact HB.out | apply below_alloc | apply pw_below_drewN | apply below_drew1) | exact HB.out)) hb); clear HB; have HB := n0_; clear n0_; (try clear hb); (try clear hb2); (try clear hk); (try clear hi)) | (go_at_call 17; (with_reducible refine (millpondref06_Touch.calls k a0 t238 _ A8.out).mono ?_); rintro e w25 ⟨rfl, hb⟩; have n0_ := Aside0.mk (below_step (by repeat (first | (with_reducible first | exact HB.out | apply below_alloc | apply pw_below_drewN | apply below_drew1) | exact HB.out)) hb); clear HB; have HB := n0_; clear n0_; (try clear hb); (try clear hb2); (try clear hk); (try clear hi)))
          go_ret
          exact ⟨by first | rfl | (simp [errW_none, errW_some] <;> rfl) | (simp [*, errW_none, errW_some] <;> rfl), by repeat (first | (with_reducible first | exact HB.out | apply below_alloc | apply pw_below_drewN | apply below_drew1) | exact HB.out)⟩
      · rw [if_neg c10] at H
        have c10b0 : (t233 == t235) = false := beq_eq_false_iff_ne.mpr c10
        have c10b1 : (t233 != t235) = true := bne_iff_ne.mpr c10
        obtain rfl := Option.some.inj H
        go_enter Try.func4, Try.ntmps4
        go_wp2_with (first | ((with_reducible refine gate_callee (f := 9) rfl ?_); refine goesL_ (some 10) rfl rfl Try.func9 (by kernel_rfl) rfl #[] rfl (by (try simp only [List.map_toArray, List.map_cons, List.map_nil]); first | done | rfl | (simp only [List.length_drop, List.length_take]; rfl)) ?_; (with_reducible refine (millpondlaw06_works.calls k  true _ A3.out).mono ?_); rintro e w26 ⟨rfl, hb⟩; refine ⟨_, rfl, ?_⟩; have n0_ := Aside0.mk (below_step (by repeat (first | (with_reducible first | exact HB.out | apply below_alloc | apply pw_below_drewN | apply below_drew1) | exact HB.out)) hb); clear HB; have HB := n0_; clear n0_; (try clear hb); (try clear hb2); (try clear hk); (try clear hi)) | ((with_reducible refine gate_callee (f := 14) rfl ?_); refine goesL_ (some 15) rfl rfl Try.func14 (by kernel_rfl) rfl #[.int .u64 a0] rfl (by (try simp only [List.map_toArray, List.map_cons, List.map_nil]); first | done | rfl | (simp only [List.length_drop, List.length_take]; rfl)) ?_; (with_reducible refine (entry_Rest.calls k a0 t233 t234 _ A5.out).mono ?_); rintro e w27 ⟨rfl, hb⟩; refine ⟨_, rfl, ?_⟩; have n0_ := Aside0.mk (below_step (by repeat (first | (with_reducible first | exact HB.out | apply below_alloc | apply pw_below_drewN | apply below_drew1) | exact HB.out)) hb); clear HB; have HB := n0_; clear n0_; (try clear hb); (try clear hb2); (try clear hk); (try clear hi)) | ((with_reducible refine gate_callee (f := 15) rfl ?_); refine goesL_ (some 20) rfl rfl Try.func15 (by kernel_rfl) rfl #[.int .u64 a0] rfl (by (try simp only [List.map_toArray, List.map_cons, List.map_nil]); first | done | rfl | (simp only [List.length_drop, List.length_take]; rfl)) ?_; (with_reducible refine (millpondref06_Rest.calls k a0 t235 t236 _ A6.out).mono ?_); rintro e w28 ⟨rfl, hb⟩; refine ⟨_, rfl, ?_⟩; have n0_ := Aside0.mk (below_step (by repeat (first | (with_reducible first | exact HB.out | apply below_alloc | apply pw_below_drewN | apply below_drew1) | exact HB.out)) hb); clear HB; have HB := n0_; clear n0_; (try clear hb); (try clear hb2); (try clear hk); (try clear hi)) | (go_at_call 16; (with_reducible refine (entry_Touch.calls k a0 t237 _ A7.out).mono ?_); rintro e w29 ⟨rfl, hb⟩; have n0_ := Aside0.mk (below_step (by repeat (first | (with_reducible first | exact HB.out | apply below_alloc | apply pw_below_drewN | apply below_drew1) | exact HB.out)) hb); clear HB; have HB := n0_; clear n0_; (try clear hb); (try clear hb2); (try clear hk); (try clear hi)) | (go_at_call 17; (with_reducible refine (millpondref06_Touch.calls k a0 t238 _ A8.out).mono ?_); rintro e w30 ⟨rfl, hb⟩; have n0_ := Aside0.mk (below_step (by repeat (first | (with_reducible first | exact HB.out | apply below_alloc | apply pw_below_drewN | apply below_drew1) | exact HB.out)) hb); clear HB; have HB := n0_; clear n0_; (try clear hb); (try clear hb2); (try clear hk); (try clear hi)))
        go_ret
        exact ⟨by first | rfl | (simp [errW_none, errW_some] <;> rfl) | (simp [*, errW_none, errW_some] <;> rfl), by repeat (first | (with_reducible first | exact HB.out | apply below_alloc | apply pw_below_drewN | apply below_drew1) | exact HB.out)⟩
    · rw [if_neg c9] at H
      have c9b0 : (t237 == t238) = false := beq_eq_false_iff_ne.mpr c9
      have c9b1 : (t237 != t238) = true := bne_iff_ne.mpr c9
      obtain rfl := Option.some.inj H
      go_enter Try.func4, Try.ntmps4
      go_wp2_with (first | ((with_reducible refine gate_callee (f := 9) rfl ?_); refine goesL_ (some 10) rfl rfl Try.func9 (by kernel_rfl) rfl #[] rfl (by (try simp only [List.map_toArray, List.map_cons, List.map_nil]); first | done | rfl | (simp only [List.length_drop, List.length_take]; rfl)) ?_; (with_reducible refine (millpondlaw06_works.calls k  true _ A3.out).mono ?_); rintro e w31 ⟨rfl, hb⟩; refine ⟨_, rfl, ?_⟩; have n0_ := Aside0.mk (below_step (by repeat (first | (with_reducible first | exact HB.out | apply below_alloc | apply pw_below_drewN | apply below_drew1) | exact HB.out)) hb); clear HB; have HB := n0_; clear n0_; (try clear hb); (try clear hb2); (try clear hk); (try clear hi)) | ((with_reducible refine gate_callee (f := 14) rfl ?_); refine goesL_ (some 15) rfl rfl Try.func14 (by kernel_rfl) rfl #[.int .u64 a0] rfl (by (try simp only [List.map_toArray, List.map_cons, List.map_nil]); first | done | rfl | (simp only [List.length_drop, List.length_take]; rfl)) ?_; (with_reducible refine (entry_Rest.calls k a0 t233 t234 _ A5.out).mono ?_); rintro e w32 ⟨rfl, hb⟩; refine ⟨_, rfl, ?_⟩; have n0_ := Aside0.mk (below_step (by repeat (first | (with_reducible first | exact HB.out | apply below_alloc | apply pw_below_drewN | apply below_drew1) | exact HB.out)) hb); clear HB; have HB := n0_; clear n0_; (try clear hb); (try clear hb2); (try clear hk); (try clear hi)) | ((with_reducible refine gate_callee (f := 15) rfl ?_); refine goesL_ (some 20) rfl rfl Try.func15 (by kernel_rfl) rfl #[.int .u64 a0] rfl (by (try simp only [List.map_toArray, List.map_cons, List.map_nil]); first | done | rfl | (simp only [List.length_drop, List.length_take]; rfl)) ?_; (with_reducible refine (millpondref06_Rest.calls k a0 t235 t236 _ A6.out).mono ?_); rintro e w33 ⟨rfl, hb⟩; refine ⟨_, rfl, ?_⟩; have n0_ := Aside0.mk (below_step (by repeat (first | (with_reducible first | exact HB.out | apply below_alloc | apply pw_below_drewN | apply below_drew1) | exact HB.out)) hb); clear HB; have HB := n0_; clear n0_; (try clear hb); (try clear hb2); (try clear hk); (try clear hi)) | (go_at_call 16; (with_reducible refine (entry_Touch.calls k a0 t237 _ A7.out).mono ?_); rintro e w34 ⟨rfl, hb⟩; have n0_ := Aside0.mk (below_step (by repeat (first | (with_reducible first | exact HB.out | apply below_alloc | apply pw_below_drewN | apply below_drew1) | exact HB.out)) hb); clear HB; have HB := n0_; clear n0_; (try clear hb); (try clear hb2); (try clear hk); (try clear hi)) | (go_at_call 17; (with_reducible refine (millpondref06_Touch.calls k a0 t238 _ A8.out).mono ?_); rintro e w35 ⟨rfl, hb⟩; have n0_ := Aside0.mk (below_step (by repeat (first | (with_reducible first | exact HB.out | apply below_alloc | apply pw_below_drewN | apply below_drew1) | exact HB.out)) hb); clear HB; have HB := n0_; clear n0_; (try clear hb); (try clear hb2); (try clear hk); (try clear hi)))
      go_ret
      exact ⟨by first | rfl | (simp [errW_none, errW_some] <;> rfl) | (simp [*, errW_none, errW_some] <;> rfl), by repeat (first | (with_reducible first | exact HB.out | apply below_alloc | apply pw_below_drewN | apply below_drew1) | exact HB.out)⟩
  · replace c4 := Bool.eq_false_iff.mpr c4
    subst c4
    have H1 : (some false) = some r := by rw [if_neg (show ¬ (false = true) by decide)] at H; exact H
    clear H
    have H := H1
    clear H1
    obtain rfl := Option.some.inj H
    go_enter Try.func4, Try.ntmps4
    go_wp2_with (first | ((with_reducible refine gate_callee (f := 9) rfl ?_); refine goesL_ (some 10) rfl rfl Try.func9 (by kernel_rfl) rfl #[] rfl (by (try simp only [List.map_toArray, List.map_cons, List.map_nil]); first | done | rfl | (simp only [List.length_drop, List.length_take]; rfl)) ?_; (with_reducible refine (millpondlaw06_works.calls k  false _ A3.out).mono ?_); rintro e w36 ⟨rfl, hb⟩; refine ⟨_, rfl, ?_⟩; have n0_ := Aside0.mk (below_step (by repeat (first | (with_reducible first | exact HB.out | apply below_alloc | apply pw_below_drewN | apply below_drew1) | exact HB.out)) hb); clear HB; have HB := n0_; clear n0_; (try clear hb); (try clear hb2); (try clear hk); (try clear hi)))
    go_ret
    exact ⟨by first | rfl | (simp [errW_none, errW_some] <;> rfl) | (simp [*, errW_none, errW_some] <;> rfl), by repeat (first | (with_reducible first | exact HB.out | apply below_alloc | apply pw_below_drewN | apply below_drew1) | exact HB.out)⟩

/-- THE ONE PURE STATEMENT of millpondlaw06_EntryTurns: yours. -/
def millpondlaw06_EntryTurns.Pure : Prop := ∀ (a0 : Int) (a1 : Bool), (Lit.int .u64 a0).wf = true → ∃ k, millpondlaw06_EntryTurns.f k a0 a1 = some true
theorem millpondlaw06_EntryTurns.walk (P : millpondlaw06_EntryTurns.Pure) (a0 : Int) (a1 : Bool) (w : World) (w0 : (Lit.int .u64 a0).wf = true) :
    Calls Try.prog 4 #[.int .u64 a0, .bool a1] w fun e w' => e = .returned (.bool true) ∧ Below w.heap.size w w' := by
  obtain ⟨k, h⟩ := P a0 a1 w0
  refine (millpondlaw06_EntryTurns.calls k a0 a1 true w h).mono ?_
  rintro e w' ⟨rfl, hd⟩
  exact ⟨rfl, hd⟩

end Go.Proofs.Ytjcibcnphdnfbaa.PEntryTurns
