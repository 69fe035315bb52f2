/- The document's example of shadows is walked. -/
import Derived.Test.YtpkpipkjmlhfaaaLib
import Derived.RowKit3
namespace Go.Proofs.Ytpkpipkjmlhfaaa.Pure
open Go.RowKit Go.Proofs.Ytpkpipkjmlhfaaa.A Go.Proofs.Ytpkpipkjmlhfaaa.Ev Go.Proofs.YtpkpipkjmlhfaaaW.PrintWords Go.Proofs.YtpkpipkjmlhfaaaW.PrintLast Go.Proofs.YtpkpipkjmlhfaaaW.PrintMore
set_option linter.unusedVariables false
set_option linter.unusedSimpArgs false
theorem k_make (g c : Int) (hg : -9223372036854775808 ≤ g ∧ g ≤ 9223372036854775807) (W : World) : Calls Try.prog 12 #[.int .i64 g, .int .i64 c] W fun e w' => e = .returned (.int .u64 (mk g c)) ∧ Below W.heap.size W w' := shadow_Make.calls 20 g c _ W (make_is g c hg 20 (by decide))
theorem k_look (x : Int) (h0 : 0 ≤ x) (h1 : x < 18446744073709551616) (W : World) : Calls Try.prog 9 #[.int .u64 x] W fun e w' => e = .returned (.tuple #[.int .i64 (lookS x).1, .int .i64 (lookS x).2.1, .bool (lookS x).2.2]) ∧ Below W.heap.size W w' := shadow_Look.calls 20 x _ _ _ W (look_is x h0 h1 20 (by decide))
theorem k_dist (x c : Int) (h0 : 0 ≤ x) (h1 : x < 18446744073709551616) (hc : -9223372036854775808 ≤ c ∧ c ≤ 9223372036854775807) (W : World) : Calls Try.prog 14 #[.int .u64 x, .int .i64 c] W fun e w' => e = .returned (.int .i64 (distS x c)) ∧ Below W.heap.size W w' := shadow_Distance.calls 20 x c _ W (dist_is x c h0 h1 hc 20 (by decide))
theorem k_near (x c r : Int) (h0 : 0 ≤ x) (h1 : x < 18446744073709551616) (hc : -9223372036854775808 ≤ c ∧ c ≤ 9223372036854775807) (W : World) : Calls Try.prog 15 #[.int .u64 x, .int .i64 c, .int .i64 r] W fun e w' => e = .returned (.bool (nearS x c r)) ∧ Below W.heap.size W w' := shadow_Working.calls 20 x c r _ W (near_is x c r h0 h1 hc 20 (by decide))
def f0 : Nat → Int := fun _ => 0
def f1 : Nat → Int := up f0 3 1
def f2 : Nat → Int := up f1 3 2
def h1 : Nat → Int := up f0 5 1
theorem v_near : nearS 7 2 2 = true := by decide
theorem v_far : nearS 7 2 1 = false := by decide
theorem v_look : lookS 7 = (3, 0, true) := by decide
theorem w_look (W : World) : Calls Try.prog 9 #[.int .u64 7] W fun e w' => e = .returned (.tuple #[.int .i64 3, .int .i64 0, .bool true]) ∧ Below W.heap.size W w' := k_look 7 (by decide) (by decide) W
theorem w_make (W : World) : Calls Try.prog 12 #[.int .i64 3, .int .i64 0] W fun e w' => e = .returned (.int .u64 7) ∧ Below W.heap.size W w' := k_make 3 0 (by decide) W
theorem w_make1 (W : World) : Calls Try.prog 12 #[.int .i64 3, .int .i64 1] W fun e w' => e = .returned (.int .u64 519) ∧ Below W.heap.size W w' := k_make 3 1 (by decide) W
theorem w_dist (W : World) : Calls Try.prog 14 #[.int .u64 7, .int .i64 2] W fun e w' => e = .returned (.int .i64 2) ∧ Below W.heap.size W w' := k_dist 7 2 (by decide) (by decide) (by decide) W
theorem w_near (W : World) : Calls Try.prog 15 #[.int .u64 7, .int .i64 2, .int .i64 2] W fun e w' => e = .returned (.bool true) ∧ Below W.heap.size W w' := k_near 7 2 2 (by decide) (by decide) (by decide) W
theorem w_far (W : World) : Calls Try.prog 15 #[.int .u64 7, .int .i64 2, .int .i64 1] W fun e w' => e = .returned (.bool false) ∧ Below W.heap.size W w' := k_near 7 2 1 (by decide) (by decide) (by decide) W
theorem w_went0 {b : Nat} (W : World) (H : LogAt W b f0 f0) : Calls Try.prog 18 #[.pointer (some ⟨b, 0, none⟩), .int .i64 3] W fun e w' => e = .returned (.int .u64 7) ∧ LogAt w' b f1 f0 ∧ Chg W w' (· = b) := by
  have h := went_in (b := b) (f := f0) (h := f0) 3 (by decide) (by decide) 7 w_make W H
  have e : wrap64 (f0 (3 : Int).toNat + 1) = 1 := by unfold wrap64; decide
  rw [e] at h; exact h
theorem w_went1 {b : Nat} (W : World) (H : LogAt W b f1 f0) : Calls Try.prog 18 #[.pointer (some ⟨b, 0, none⟩), .int .i64 3] W fun e w' => e = .returned (.int .u64 519) ∧ LogAt w' b f2 f0 ∧ Chg W w' (· = b) := by
  have e0 : f1 (3 : Int).toNat = 1 := by decide
  have h := went_in (b := b) (f := f1) (h := f0) 3 (by decide) (by decide) 519 (by rw [e0]; exact w_make1) W H
  have e : wrap64 (f1 (3 : Int).toNat + 1) = 2 := by unfold wrap64; decide
  rw [e] at h; exact h
theorem w_clock {b : Nat} (W : World) (H : LogAt W b f2 f0) : Calls Try.prog 22 #[.pointer (some ⟨b, 0, none⟩), .int .i64 3] W fun e w' => e = .returned (.int .i64 2) ∧ Below W.heap.size W w' := by
  have h := clock_in (b := b) (f := f2) (h := f0) 3 (by decide) (by decide) W H
  have e : f2 (3 : Int).toNat = 2 := by decide
  rw [e] at h; exact h
theorem w_came {b : Nat} (W : World) (H : LogAt W b f2 f0) : Calls Try.prog 20 #[.pointer (some ⟨b, 0, none⟩), .int .u64 7, .int .i64 5, .int .i64 2] W fun e w' => e = .returned (.bool true) ∧ LogAt w' b f2 h1 ∧ Chg W w' (· = b) := by
  have e0 : f2 (3 : Int).toNat = 2 := by decide
  have h := came_in (b := b) (f := f2) (h := f0) 7 3 0 5 2 w_look (by decide) (by decide) (by rw [e0]; exact w_near) (by decide) (by decide) W H
  have e : wrap64 (f0 (5 : Int).toNat + 1) = 1 := by unfold wrap64; decide
  rw [e] at h; exact h
theorem w_back {b : Nat} (W : World) (H : LogAt W b f2 h1) : Calls Try.prog 23 #[.pointer (some ⟨b, 0, none⟩), .int .i64 5] W fun e w' => e = .returned (.int .i64 1) ∧ Below W.heap.size W w' := by
  have h := back_in (b := b) (f := f2) (h := h1) 5 (by decide) (by decide) W H
  have e : h1 (5 : Int).toNat = 1 := by decide
  rw [e] at h; exact h
theorem w_new (W : World) : Calls Try.prog 16 #[] W fun e w' => ∃ b, e = .returned (.pointer (some ⟨b, 0, none⟩)) ∧ W.heap.size ≤ b ∧ LogAt w' b f0 f0 ∧ Below W.heap.size W w' := new_log W

attribute [local irreducible] logC f0 f1 f2 h1 A.up mk lookS distS nearS
set_option maxRecDepth 100000 in
set_option maxHeartbeats 2000000 in
theorem works_walk (W : World) : Calls Try.prog 8 #[] W fun e w' => e = .returned (.bool true) ∧ Below W.heap.size W w' := by
  have HB := Aside0.mk (Below.refl W.heap.size W)
  go_enter Try.func8, Try.ntmps8
  go_wp2_with (first
    | (go_at_call 12; have t_ := B1; clear t_; refine (w_make _).mono ?_; rintro e wv10 ⟨rfl, hb⟩; have m1 := Aside0.mk ((hb.block g1 (blk_lt B1.out)).trans B1.out); have mHB := Aside0.mk (below_step (by repeat (first | exact HB.out | apply pw_below_drewN | apply below_drew1)) hb); clear HB; have HB := mHB; clear mHB; clear B1; have B1 : Aside0 (wv10.heap[g1]? = some (.cells (logC (f2) (h1)) 57 (0, 0))) := m1; clear m1; clear hb)
    | (go_at_call 23; have t_ := B1; clear t_; refine (w_back _ B1.out).mono ?_; rintro e wv9 ⟨rfl, hb⟩; have m1 := Aside0.mk ((hb.block g1 (blk_lt B1.out)).trans B1.out); have mHB := Aside0.mk (below_step (by repeat (first | exact HB.out | apply pw_below_drewN | apply below_drew1)) hb); clear HB; have HB := mHB; clear mHB; clear B1; have B1 : Aside0 (wv9.heap[g1]? = some (.cells (logC (f2) (h1)) 57 (0, 0))) := m1; clear m1; clear hb)
    | (go_at_call 20; have t_ := B1; clear t_; refine (w_came _ B1.out).mono ?_; rintro e wv8 ⟨rfl, hnew, hc⟩; have mHB := Aside0.mk (hc.below (by repeat (first | exact HB.out | apply pw_below_drewN | apply below_drew1)) (fun k hk => by rw [hk]; exact G1.out)); have m1 := Aside0.mk hnew; clear HB; have HB := mHB; clear mHB hc hnew; clear B1; have B1 : Aside0 (wv8.heap[g1]? = some (.cells (logC (f2) (h1)) 57 (0, 0))) := m1; clear m1)
    | (go_at_call 15; have t_ := B1; clear t_; refine (k_near _ _ _ (by decide) (by decide) (by decide) _).mono ?_; rintro e wv7 ⟨rfl, hb⟩; have m1 := Aside0.mk ((hb.block g1 (blk_lt B1.out)).trans B1.out); have mHB := Aside0.mk (below_step (by repeat (first | exact HB.out | apply pw_below_drewN | apply below_drew1)) hb); clear HB; have HB := mHB; clear mHB; clear B1; have B1 : Aside0 (wv7.heap[g1]? = some (.cells (logC (f2) (f0)) 57 (0, 0))) := m1; clear m1; clear hb; (try rw [v_near]); (try rw [v_far]))
    | (go_at_call 14; have t_ := B1; clear t_; refine (w_dist _).mono ?_; rintro e wv6 ⟨rfl, hb⟩; have m1 := Aside0.mk ((hb.block g1 (blk_lt B1.out)).trans B1.out); have mHB := Aside0.mk (below_step (by repeat (first | exact HB.out | apply pw_below_drewN | apply below_drew1)) hb); clear HB; have HB := mHB; clear mHB; clear B1; have B1 : Aside0 (wv6.heap[g1]? = some (.cells (logC (f2) (f0)) 57 (0, 0))) := m1; clear m1; clear hb)
    | (go_at_call 22; have t_ := B1; clear t_; refine (w_clock _ B1.out).mono ?_; rintro e wv5 ⟨rfl, hb⟩; have m1 := Aside0.mk ((hb.block g1 (blk_lt B1.out)).trans B1.out); have mHB := Aside0.mk (below_step (by repeat (first | exact HB.out | apply pw_below_drewN | apply below_drew1)) hb); clear HB; have HB := mHB; clear mHB; clear B1; have B1 : Aside0 (wv5.heap[g1]? = some (.cells (logC (f2) (f0)) 57 (0, 0))) := m1; clear m1; clear hb)
    | (go_at_call 9; have t_ := B1; clear t_; refine (w_look _).mono ?_; rintro e wv4 ⟨rfl, hb⟩; have m1 := Aside0.mk ((hb.block g1 (blk_lt B1.out)).trans B1.out); have mHB := Aside0.mk (below_step (by repeat (first | exact HB.out | apply pw_below_drewN | apply below_drew1)) hb); clear HB; have HB := mHB; clear mHB; clear B1; have B1 : Aside0 (wv4.heap[g1]? = some (.cells (logC (f2) (f0)) 57 (0, 0))) := m1; clear m1; clear hb)
    | (go_at_call 18; have t_ := B1; clear t_; refine (w_went1 _ B1.out).mono ?_; rintro e wv3 ⟨rfl, hnew, hc⟩; have mHB := Aside0.mk (hc.below (by repeat (first | exact HB.out | apply pw_below_drewN | apply below_drew1)) (fun k hk => by rw [hk]; exact G1.out)); have m1 := Aside0.mk hnew; clear HB; have HB := mHB; clear mHB hc hnew; clear B1; have B1 : Aside0 (wv3.heap[g1]? = some (.cells (logC (f2) (f0)) 57 (0, 0))) := m1; clear m1)
    | (go_at_call 18; have t_ := B1; clear t_; refine (w_went0 _ B1.out).mono ?_; rintro e wv2 ⟨rfl, hnew, hc⟩; have mHB := Aside0.mk (hc.below (by repeat (first | exact HB.out | apply pw_below_drewN | apply below_drew1)) (fun k hk => by rw [hk]; exact G1.out)); have m1 := Aside0.mk hnew; clear HB; have HB := mHB; clear mHB hc hnew; clear B1; have B1 : Aside0 (wv2.heap[g1]? = some (.cells (logC (f1) (f0)) 57 (0, 0))) := m1; clear m1)
    | (go_at_call 16; refine (w_new _).mono ?_; rintro e wv1 ⟨g1, rfl, hfresh, hnew, hb⟩; have G1 := Aside0.mk (Nat.le_trans (below_size (by repeat (first | exact HB.out | apply pw_below_drewN | apply below_drew1))) hfresh); have mHB := Aside0.mk (below_step (by repeat (first | exact HB.out | apply pw_below_drewN | apply below_drew1)) hb); clear HB; have HB := mHB; clear mHB; have B1 : Aside0 (wv1.heap[g1]? = some (.cells (logC (f0) (f0)) 57 (0, 0))) := Aside0.mk hnew; clear hfresh hnew hb)
    )
  go_ret
  exact ⟨by simp, HB.out⟩
end Go.Proofs.Ytpkpipkjmlhfaaa.Pure
