/- The log of a shadow: its calls, as what they do to one block. -/
import Derived.Test.YtpkpipkjmlhfaaaAx2
import Derived.Test.YtpkpipkjmlhfaaaAx4
import Derived.Test.YtpkpipkjmlhfaaaAx5
import Derived.Test.YtpkpipkjmlhfaaaAx6
import Derived.Test.YtpkpipkjmlhfaaaAx10
import Derived.Test.YtpkpipkjmlhfaaaEv
import Derived.RowKit3
import Derived.Deep.Draws
namespace Go.Proofs.Ytpkpipkjmlhfaaa.A
open Go.RowKit Go.Proofs.Ytpkpipkjmlhfaaa.Ev Go.Proofs.YtpkpipkjmlhfaaaW.PrintWords Go.Proofs.YtpkpipkjmlhfaaaW.PrintLast Go.Proofs.YtpkpipkjmlhfaaaW.PrintMore
set_option linter.unusedVariables false
set_option linter.unusedSimpArgs false
/-- A log as cells: clocks and how many came back. -/
def logC (f h : Nat → Int) : Array Value := Array.ofFn (n := 128) fun j => if j.val % 2 = 0 then .int .i64 (f (j.val / 2)) else .int .i64 (h (j.val / 2))
theorem logC_size (f h : Nat → Int) : (logC f h).size = 128 := by simp [logC]
theorem logC_f (f h : Nat → Int) (i : Nat) (hi : i < 64) : (logC f h)[i * 2]? = some (.int .i64 (f i)) := by
  rw [logC, Array.getElem?_ofFn, dif_pos (by omega)]
  simp
theorem logC_h (f h : Nat → Int) (i : Nat) (hi : i < 64) : (logC f h)[i * 2 + 1]? = some (.int .i64 (h i)) := by
  rw [logC, Array.getElem?_ofFn, dif_pos (by omega)]
  have e1 : (i * 2 + 1) % 2 = 1 := by omega
  have e2 : (i * 2 + 1) / 2 = i := by omega
  simp [e1, e2]
def up (f : Nat → Int) (i : Nat) (x : Int) : Nat → Int := fun j => if j = i then x else f j
theorem logC_putf (f h : Nat → Int) (i : Nat) (x : Int) : (logC f h).setIfInBounds (i * 2) (.int .i64 x) = logC (up f i x) h := by
  apply Array.ext
  · simp [logC]
  · intro j h1 h2
    have hj : j < 128 := by simpa [logC] using h2
    by_cases e : i * 2 = j
    · subst e
      rw [Array.getElem_setIfInBounds_self]
      simp [logC, up]
    · rw [Array.getElem_setIfInBounds_ne (by simpa [logC] using hj) e]
      simp only [logC, Array.getElem_ofFn, up]
      by_cases e1 : j % 2 = 0
      · rw [if_pos e1, if_pos e1, if_neg (by omega)]
      · rw [if_neg e1, if_neg e1]
theorem logC_puth (f h : Nat → Int) (i : Nat) (x : Int) : (logC f h).setIfInBounds (i * 2 + 1) (.int .i64 x) = logC f (up h i x) := by
  apply Array.ext
  · simp [logC]
  · intro j h1 h2
    have hj : j < 128 := by simpa [logC] using h2
    by_cases e : i * 2 + 1 = j
    · subst e
      rw [Array.getElem_setIfInBounds_self]
      have e1 : (i * 2 + 1) % 2 = 1 := by omega
      have e2 : (i * 2 + 1) / 2 = i := by omega
      simp [logC, up, e1, e2]
    · rw [Array.getElem_setIfInBounds_ne (by simpa [logC] using hj) e]
      simp only [logC, Array.getElem_ofFn, up]
      by_cases e1 : j % 2 = 0
      · rw [if_pos e1, if_pos e1]
      · rw [if_neg e1, if_neg e1, if_neg (by omega)]
/-- A log lies at block b. -/
def LogAt (W : World) (b : Nat) (f h : Nat → Int) : Prop := W.heap[b]? = some (.cells (logC f h) 57 (0, 0))
theorem LogAt.cellf {W : World} {b : Nat} {f h : Nat → Int} (H : LogAt W b f h) (g : Int) (h0 : 0 ≤ g) (h1 : g < 64) : W.cell? ⟨b, g.toNat * 2, none⟩ = some (.int .i64 (f g.toNat)) := (blk_cell H _).trans (logC_f f h _ (by omega))
theorem LogAt.cellh {W : World} {b : Nat} {f h : Nat → Int} (H : LogAt W b f h) (g : Int) (h0 : 0 ≤ g) (h1 : g < 64) : W.cell? ⟨b, g.toNat * 2 + 1, none⟩ = some (.int .i64 (h g.toNat)) := (blk_cell H _).trans (logC_h f h _ (by omega))
theorem k_group (g : Int) (W : World) : Calls Try.prog 27 #[.int .i64 g] W fun e w' => e = .returned (.bool (decide (0 ≤ g) && decide (g < 64))) ∧ Below W.heap.size W w' :=
  (shadow_group.calls g (decide (0 ≤ g) && decide (g < 64)) W (by unfold shadow_group.f; by_cases h : 0 ≤ g <;> simp [h])).mono fun e w' h => ⟨h.1, h.2.below⟩
theorem group_in {g : Int} (h0 : 0 ≤ g) (h1 : g < 64) (W : World) : Calls Try.prog 27 #[.int .i64 g] W fun e w' => e = .returned (.bool true) ∧ Below W.heap.size W w' := by
  have := k_group g W
  rwa [decide_eq_true h0, decide_eq_true h1] at this
theorem group_out {g : Int} (h : ¬ (0 ≤ g ∧ g < 64)) (W : World) : Calls Try.prog 27 #[.int .i64 g] W fun e w' => e = .returned (.bool false) ∧ Below W.heap.size W w' := by
  have := k_group g W
  rwa [show (decide (0 ≤ g) && decide (g < 64)) = false by simp; omega] at this
set_option maxRecDepth 100000 in
set_option maxHeartbeats 2000000 in
theorem went_in {b : Nat} {f h : Nat → Int} (g : Int) (h0 : 0 ≤ g) (h1 : g < 64) (x : Int) (hm : ∀ W, Calls Try.prog 12 #[.int .i64 g, .int .i64 (f g.toNat)] W fun e w' => e = .returned (.int .u64 x) ∧ Below W.heap.size W w') (W : World) (H : LogAt W b f h) :
    Calls Try.prog 18 #[.pointer (some ⟨b, 0, none⟩), .int .i64 g] W fun e w' => e = .returned (.int .u64 x) ∧ LogAt w' b (up f g.toNat (wrap64 (f g.toNat + 1))) h ∧ Chg W w' (· = b) := by
  have HM := Aside0.mk hm
  clear hm
  have HL := Aside0.mk H
  have HX := Aside0.mk (H.cellf g h0 h1)
  have HI0 := h0
  have HI1 := h1
  have HB := Aside0.mk (Below.refl W.heap.size W)
  clear H
  go_enter Try.func18, Try.ntmps18
  go_wp2_with (first
    | (go_at_call 27; refine (group_in h0 h1 _).mono ?_; rintro e w1 ⟨rfl, hb⟩; have n_ := Aside0.mk (below_step (by repeat (first | exact HB.out | apply pw_below_drewN | apply below_drew1)) hb); clear HB; have HB := n_; clear n_ hb; have x0 := (HB.out.cell (p := ⟨b, g.toNat * 2, none⟩) (blk_lt HL.out)).trans HX.out)
    | (go_at_call 12; refine (HM.out _).mono ?_; rintro e w1 ⟨rfl, hb⟩; have n_ := Aside0.mk (below_step (by repeat (first | exact HB.out | apply pw_below_drewN | apply below_drew1)) hb); clear HB; have HB := n_; clear n_ hb; skip)
    )
  have HXX := Aside0.mk (show w1.cell? ⟨b, g.toNat * 2, none⟩ = _ from (HB.out.cell (p := ⟨b, g.toNat * 2, none⟩) (blk_lt HL.out)).trans HX.out)
  have HLL := Aside0.mk (show w1.heap[b]? = _ from (HB.out.block b (blk_lt HL.out)).trans HL.out)
  refine start_ (n := 13) (S := fun w' => w'.cell? ⟨b, g.toNat * 2, none⟩ = some (.int .i64 (f g.toNat))) (ds := [12]) #[false, false, false, false, false, false, false, false, false, false, false, false, false] (by kernel_rfl) rfl rfl HXX.out (fun hHeld => ?_)
  have HT_ : Aside0 (rtab .any (opsOf Try.f18 4) = rtab .any (opsOf Try.f18 4)) := ⟨rfl⟩
  refine pure_ (i := 0) (N := some 18) (v := ?_) (a' := ?_) #[true, false, false, false, false, false, false, false, false, false, false, false, false] rfl rfl (any_of HT_.out (by kernel_rfl)) (fun _ _ _ h => h) (Or.inl ⟨by rfl, ?_⟩) ?_ ?_
  rotate_left
  · intro w'
    go_simp
    with_reducible rfl
  rotate_left
  · simp only [Act.put, List.setIfInBounds_toArray, List.set_cons_zero, List.set_cons_succ, i64_w, i32_w]
    rfl
  refine pure_ (i := 1) (N := some 19) (v := ?_) (a' := ?_) #[true, true, false, false, false, false, false, false, false, false, false, false, false] rfl rfl (any_of HT_.out (by kernel_rfl)) (fun _ _ _ h => h) (Or.inl ⟨by rfl, ?_⟩) ?_ ?_
  rotate_left
  · intro w'
    go_simp
    with_reducible rfl
  rotate_left
  · simp only [Act.put, List.setIfInBounds_toArray, List.set_cons_zero, List.set_cons_succ, i64_w, i32_w]
    rfl
  refine pure_ (i := 2) (N := some 20) (v := ?_) (a' := ?_) #[true, true, true, false, false, false, false, false, false, false, false, false, false] rfl rfl (any_of HT_.out (by kernel_rfl)) (fun _ _ _ h => h) (Or.inl ⟨by rfl, ?_⟩) ?_ ?_
  rotate_left
  · intro w'
    go_simp
    with_reducible rfl
  rotate_left
  · simp only [Act.put, List.setIfInBounds_toArray, List.set_cons_zero, List.set_cons_succ, i64_w, i32_w]
    rfl
  refine pure_ (i := 3) (N := some 21) (v := ?_) (a' := ?_) #[true, true, true, true, false, false, false, false, false, false, false, false, false] rfl rfl (any_of HT_.out (by kernel_rfl)) (fun _ _ _ h => h) (Or.inl ⟨by rfl, ?_⟩) ?_ ?_
  rotate_left
  · intro w'
    go_simp
    with_reducible rfl
  rotate_left
  · simp only [Act.put, List.setIfInBounds_toArray, List.set_cons_zero, List.set_cons_succ, i64_w, i32_w]
    rfl
  refine pure_ (i := 4) (N := some 22) (v := ?_) (a' := ?_) #[true, true, true, true, true, false, false, false, false, false, false, false, false] rfl rfl (any_of HT_.out (by kernel_rfl)) (fun _ _ _ h => h) (Or.inl ⟨by rfl, ?_⟩) ?_ ?_
  rotate_left
  · intro w'
    go_simp
    with_reducible rfl
  rotate_left
  · simp only [Act.put, List.setIfInBounds_toArray, List.set_cons_zero, List.set_cons_succ, i64_w, i32_w]
    rfl
  refine pure_ (i := 5) (N := some 23) (v := ?_) (a' := ?_) #[true, true, true, true, true, true, false, false, false, false, false, false, false] rfl rfl (any_of HT_.out (by kernel_rfl)) (fun _ _ _ h => h) (Or.inl ⟨by rfl, ?_⟩) ?_ ?_
  rotate_left
  · intro w'
    go_simp
    with_reducible rfl
  rotate_left
  · simp only [Act.put, List.setIfInBounds_toArray, List.set_cons_zero, List.set_cons_succ, i64_w, i32_w]
    rfl
  refine take_ (i := 6) (N := some 24) (v := ?_) (a' := ?_) #[true, true, true, true, true, true, true, false, false, false, false, false, false] rfl rfl (take_of HT_.out (by kernel_rfl)) (fun _ _ _ h => h) (Or.inl ⟨by rfl, ?_⟩) hHeld ?_ ?_
  rotate_left
  · rintro w' s0
    go_simp
    with_reducible rfl
  rotate_left
  · simp only [Act.put, List.setIfInBounds_toArray, List.set_cons_zero, List.set_cons_succ, i64_w, i32_w]
    rfl
  refine pure_ (i := 7) (N := some 25) (v := ?_) (a' := ?_) #[true, true, true, true, true, true, true, true, false, false, false, false, false] rfl rfl (any_of HT_.out (by kernel_rfl)) (fun _ _ _ h => h) (Or.inl ⟨by rfl, ?_⟩) ?_ ?_
  rotate_left
  · intro w'
    go_simp
    with_reducible rfl
  rotate_left
  · simp only [Act.put, List.setIfInBounds_toArray, List.set_cons_zero, List.set_cons_succ, i64_w, i32_w]
    rfl
  refine pure_ (i := 8) (N := some 26) (v := ?_) (a' := ?_) #[true, true, true, true, true, true, true, true, true, false, false, false, false] rfl rfl (any_of HT_.out (by kernel_rfl)) (fun _ _ _ h => h) (Or.inl ⟨by rfl, ?_⟩) ?_ ?_
  rotate_left
  · intro w'
    go_simp
    with_reducible rfl
  rotate_left
  · simp only [Act.put, List.setIfInBounds_toArray, List.set_cons_zero, List.set_cons_succ, i64_w, i32_w]
    rfl
  refine pure_ (i := 9) (N := some 27) (v := ?_) (a' := ?_) #[true, true, true, true, true, true, true, true, true, true, false, false, false] rfl rfl (any_of HT_.out (by kernel_rfl)) (fun _ _ _ h => h) (Or.inl ⟨by rfl, ?_⟩) ?_ ?_
  rotate_left
  · intro w'
    go_simp
    with_reducible rfl
  rotate_left
  · simp only [Act.put, List.setIfInBounds_toArray, List.set_cons_zero, List.set_cons_succ, i64_w, i32_w]
    rfl
  refine pure_ (i := 10) (N := some 28) (v := ?_) (a' := ?_) #[true, true, true, true, true, true, true, true, true, true, true, false, false] rfl rfl (any_of HT_.out (by kernel_rfl)) (fun _ _ _ h => h) (Or.inl ⟨by rfl, ?_⟩) ?_ ?_
  rotate_left
  · intro w'
    go_simp
    with_reducible rfl
  rotate_left
  · simp only [Act.put, List.setIfInBounds_toArray, List.set_cons_zero, List.set_cons_succ, i64_w, i32_w]
    rfl
  refine pure_ (i := 11) (N := some 29) (v := ?_) (a' := ?_) #[true, true, true, true, true, true, true, true, true, true, true, true, false] rfl rfl (any_of HT_.out (by kernel_rfl)) (fun _ _ _ h => h) (Or.inl ⟨by rfl, ?_⟩) ?_ ?_
  rotate_left
  · intro w'
    go_simp
    with_reducible rfl
  rotate_left
  · simp only [Act.put, List.setIfInBounds_toArray, List.set_cons_zero, List.set_cons_succ, i64_w, i32_w]
    rfl
  refine last_ (i := 12) (N := none) #[true, true, true, true, true, true, true, true, true, true, true, true, true] rfl rfl (one_of HT_.out (by kernel_rfl)) (by decide) (fun K hK => ?_)
  have c0 : w1.drew.cell? ⟨b, g.toNat * 2, none⟩ = some (.int .i64 (f g.toNat)) := HXX.out
  have d0 : w1.drew.frozen? ⟨b, g.toNat * 2, none⟩ = false := blk_frozen HLL.out _
  go_simp
  refine hK.out _ _ ?_
  clear hK K
  refine done_ (done_of HT_.out (by kernel_rfl)) ?_
  go_wp2
  go_ret
  refine ⟨rfl, ?_, (Chg.trans (Chg.of_below HB.out) (Chg.set _ _ _ _)).drew⟩
  have hp := blk_set HLL.out (g.toNat * 2) (.int .i64 (wrap64 (f g.toNat + 1)))
  rw [logC_putf] at hp
  exact hp
set_option maxRecDepth 100000 in
set_option maxHeartbeats 2000000 in
theorem went_out {p : Value} (g : Int) (hg : ¬ (0 ≤ g ∧ g < 64)) (W : World) : Calls Try.prog 18 #[p, .int .i64 g] W fun e w' => e = .returned (.int .u64 0) ∧ Below W.heap.size W w' := by
  have HB := Aside0.mk (Below.refl W.heap.size W)
  go_enter Try.func18, Try.ntmps18
  go_wp2_with (first
    | (go_at_call 27; refine (group_out hg _).mono ?_; rintro e w1 ⟨rfl, hb⟩; have n_ := Aside0.mk (below_step (by repeat (first | exact HB.out | apply pw_below_drewN | apply below_drew1)) hb); clear HB; have HB := n_; clear n_ hb; skip)
    )
  go_ret
  exact ⟨rfl, HB.out⟩
set_option maxRecDepth 100000 in
set_option maxHeartbeats 2000000 in
theorem clock_in {b : Nat} {f h : Nat → Int} (g : Int) (h0 : 0 ≤ g) (h1 : g < 64) (W : World) (H : LogAt W b f h) :
    Calls Try.prog 22 #[.pointer (some ⟨b, 0, none⟩), .int .i64 g] W fun e w' => e = .returned (.int .i64 (f g.toNat)) ∧ Below W.heap.size W w' := by
  have HL := Aside0.mk H
  have HX := Aside0.mk (H.cellf g h0 h1)
  have HI0 := h0
  have HI1 := h1
  have HB := Aside0.mk (Below.refl W.heap.size W)
  clear H
  go_enter Try.func22, Try.ntmps22
  go_wp2_with (first
    | (go_at_call 27; refine (group_in h0 h1 _).mono ?_; rintro e w1 ⟨rfl, hb⟩; have n_ := Aside0.mk (below_step (by repeat (first | exact HB.out | apply pw_below_drewN | apply below_drew1)) hb); clear HB; have HB := n_; clear n_ hb; have x0 := (HB.out.cell (p := ⟨b, g.toNat * 2, none⟩) (blk_lt HL.out)).trans HX.out)
    )
  go_ret
  exact ⟨rfl, HB.out⟩
set_option maxRecDepth 100000 in
set_option maxHeartbeats 2000000 in
theorem clock_out {p : Value} (g : Int) (hg : ¬ (0 ≤ g ∧ g < 64)) (W : World) : Calls Try.prog 22 #[p, .int .i64 g] W fun e w' => e = .returned (.int .i64 0) ∧ Below W.heap.size W w' := by
  have HB := Aside0.mk (Below.refl W.heap.size W)
  go_enter Try.func22, Try.ntmps22
  go_wp2_with (first
    | (go_at_call 27; refine (group_out hg _).mono ?_; rintro e w1 ⟨rfl, hb⟩; have n_ := Aside0.mk (below_step (by repeat (first | exact HB.out | apply pw_below_drewN | apply below_drew1)) hb); clear HB; have HB := n_; clear n_ hb; skip)
    )
  go_ret
  exact ⟨rfl, HB.out⟩
set_option maxRecDepth 100000 in
set_option maxHeartbeats 2000000 in
theorem back_in {b : Nat} {f h : Nat → Int} (g : Int) (h0 : 0 ≤ g) (h1 : g < 64) (W : World) (H : LogAt W b f h) :
    Calls Try.prog 23 #[.pointer (some ⟨b, 0, none⟩), .int .i64 g] W fun e w' => e = .returned (.int .i64 (h g.toNat)) ∧ Below W.heap.size W w' := by
  have HL := Aside0.mk H
  have HX := Aside0.mk (H.cellh g h0 h1)
  have HI0 := h0
  have HI1 := h1
  have HB := Aside0.mk (Below.refl W.heap.size W)
  clear H
  go_enter Try.func23, Try.ntmps23
  go_wp2_with (first
    | (go_at_call 27; refine (group_in h0 h1 _).mono ?_; rintro e w1 ⟨rfl, hb⟩; have n_ := Aside0.mk (below_step (by repeat (first | exact HB.out | apply pw_below_drewN | apply below_drew1)) hb); clear HB; have HB := n_; clear n_ hb; have x0 := (HB.out.cell (p := ⟨b, g.toNat * 2 + 1, none⟩) (blk_lt HL.out)).trans HX.out)
    )
  go_ret
  exact ⟨rfl, HB.out⟩
set_option maxRecDepth 100000 in
set_option maxHeartbeats 2000000 in
theorem back_out {p : Value} (g : Int) (hg : ¬ (0 ≤ g ∧ g < 64)) (W : World) : Calls Try.prog 23 #[p, .int .i64 g] W fun e w' => e = .returned (.int .i64 0) ∧ Below W.heap.size W w' := by
  have HB := Aside0.mk (Below.refl W.heap.size W)
  go_enter Try.func23, Try.ntmps23
  go_wp2_with (first
    | (go_at_call 27; refine (group_out hg _).mono ?_; rintro e w1 ⟨rfl, hb⟩; have n_ := Aside0.mk (below_step (by repeat (first | exact HB.out | apply pw_below_drewN | apply below_drew1)) hb); clear HB; have HB := n_; clear n_ hb; skip)
    )
  go_ret
  exact ⟨rfl, HB.out⟩
set_option maxRecDepth 100000 in
set_option maxHeartbeats 2000000 in
theorem came_bad {p : Value} (x g c tg res : Int) (hk : ∀ W, Calls Try.prog 9 #[.int .u64 x] W fun e w' => e = .returned (.tuple #[.int .i64 g, .int .i64 c, .bool false]) ∧ Below W.heap.size W w') (W : World) :
    Calls Try.prog 20 #[p, .int .u64 x, .int .i64 tg, .int .i64 res] W fun e w' => e = .returned (.bool false) ∧ Below W.heap.size W w' := by
  have HK := Aside0.mk hk
  clear hk
  have HB := Aside0.mk (Below.refl W.heap.size W)
  go_enter Try.func20, Try.ntmps20
  go_wp2_with (first
    | (go_at_call 9; refine (HK.out _).mono ?_; rintro e w1 ⟨rfl, hb⟩; have n_ := Aside0.mk (below_step (by repeat (first | exact HB.out | apply pw_below_drewN | apply below_drew1)) hb); clear HB; have HB := n_; clear n_ hb; skip)
    )
  go_ret
  exact ⟨rfl, HB.out⟩
set_option maxRecDepth 100000 in
set_option maxHeartbeats 2000000 in
theorem came_far {p : Value} (x g c tg res : Int) (hk : ∀ W, Calls Try.prog 9 #[.int .u64 x] W fun e w' => e = .returned (.tuple #[.int .i64 g, .int .i64 c, .bool true]) ∧ Below W.heap.size W w') (hg : ¬ (0 ≤ g ∧ g < 64)) (W : World) :
    Calls Try.prog 20 #[p, .int .u64 x, .int .i64 tg, .int .i64 res] W fun e w' => e = .returned (.bool false) ∧ Below W.heap.size W w' := by
  have HK := Aside0.mk hk
  clear hk
  have HB := Aside0.mk (Below.refl W.heap.size W)
  go_enter Try.func20, Try.ntmps20
  go_wp2_with (first
    | (go_at_call 9; refine (HK.out _).mono ?_; rintro e w1 ⟨rfl, hb⟩; have n_ := Aside0.mk (below_step (by repeat (first | exact HB.out | apply pw_below_drewN | apply below_drew1)) hb); clear HB; have HB := n_; clear n_ hb; skip)
    | (go_at_call 27; refine (group_out hg _).mono ?_; rintro e w1 ⟨rfl, hb⟩; have n_ := Aside0.mk (below_step (by repeat (first | exact HB.out | apply pw_below_drewN | apply below_drew1)) hb); clear HB; have HB := n_; clear n_ hb; skip)
    )
  go_ret
  exact ⟨rfl, HB.out⟩
set_option maxRecDepth 100000 in
set_option maxHeartbeats 2000000 in
theorem came_no {b : Nat} {f h : Nat → Int} (x g c tg res : Int) (hk : ∀ W, Calls Try.prog 9 #[.int .u64 x] W fun e w' => e = .returned (.tuple #[.int .i64 g, .int .i64 c, .bool true]) ∧ Below W.heap.size W w') (h0 : 0 ≤ g) (h1 : g < 64) (hw : ∀ W, Calls Try.prog 15 #[.int .u64 x, .int .i64 (f g.toNat), .int .i64 res] W fun e w' => e = .returned (.bool false) ∧ Below W.heap.size W w') (W : World) (H : LogAt W b f h) :
    Calls Try.prog 20 #[(.pointer (some ⟨b, 0, none⟩)), .int .u64 x, .int .i64 tg, .int .i64 res] W fun e w' => e = .returned (.bool false) ∧ Below W.heap.size W w' := by
  have HK := Aside0.mk hk
  clear hk
  have HW := Aside0.mk hw
  clear hw
  have HL := Aside0.mk H
  have HX := Aside0.mk (H.cellf g h0 h1)
  have HI0 := h0
  have HI1 := h1
  have HB := Aside0.mk (Below.refl W.heap.size W)
  clear H
  go_enter Try.func20, Try.ntmps20
  go_wp2_with (first
    | (go_at_call 9; refine (HK.out _).mono ?_; rintro e w1 ⟨rfl, hb⟩; have n_ := Aside0.mk (below_step (by repeat (first | exact HB.out | apply pw_below_drewN | apply below_drew1)) hb); clear HB; have HB := n_; clear n_ hb; have x0 := (HB.out.cell (p := ⟨b, g.toNat * 2, none⟩) (blk_lt HL.out)).trans HX.out)
    | (go_at_call 27; refine (group_in h0 h1 _).mono ?_; rintro e w1 ⟨rfl, hb⟩; have n_ := Aside0.mk (below_step (by repeat (first | exact HB.out | apply pw_below_drewN | apply below_drew1)) hb); clear HB; have HB := n_; clear n_ hb; have x0 := (HB.out.cell (p := ⟨b, g.toNat * 2, none⟩) (blk_lt HL.out)).trans HX.out)
    | (go_at_call 15; refine (HW.out _).mono ?_; rintro e w1 ⟨rfl, hb⟩; have n_ := Aside0.mk (below_step (by repeat (first | exact HB.out | apply pw_below_drewN | apply below_drew1)) hb); clear HB; have HB := n_; clear n_ hb; skip)
    )
  go_ret
  exact ⟨rfl, HB.out⟩
set_option maxRecDepth 100000 in
set_option maxHeartbeats 2000000 in
theorem came_out {b : Nat} {f h : Nat → Int} (x g c tg res : Int) (hk : ∀ W, Calls Try.prog 9 #[.int .u64 x] W fun e w' => e = .returned (.tuple #[.int .i64 g, .int .i64 c, .bool true]) ∧ Below W.heap.size W w') (h0 : 0 ≤ g) (h1 : g < 64) (hw : ∀ W, Calls Try.prog 15 #[.int .u64 x, .int .i64 (f g.toNat), .int .i64 res] W fun e w' => e = .returned (.bool true) ∧ Below W.heap.size W w') (ho : ¬ (0 ≤ tg ∧ tg < 64)) (W : World) (H : LogAt W b f h) :
    Calls Try.prog 20 #[(.pointer (some ⟨b, 0, none⟩)), .int .u64 x, .int .i64 tg, .int .i64 res] W fun e w' => e = .returned (.bool true) ∧ Below W.heap.size W w' := by
  have HK := Aside0.mk hk
  clear hk
  have HW := Aside0.mk hw
  clear hw
  have HL := Aside0.mk H
  have HX := Aside0.mk (H.cellf g h0 h1)
  have HI0 := h0
  have HI1 := h1
  have HB := Aside0.mk (Below.refl W.heap.size W)
  clear H
  go_enter Try.func20, Try.ntmps20
  go_wp2_with (first
    | (go_at_call 9; refine (HK.out _).mono ?_; rintro e w1 ⟨rfl, hb⟩; have n_ := Aside0.mk (below_step (by repeat (first | exact HB.out | apply pw_below_drewN | apply below_drew1)) hb); clear HB; have HB := n_; clear n_ hb; have x0 := (HB.out.cell (p := ⟨b, g.toNat * 2, none⟩) (blk_lt HL.out)).trans HX.out)
    | (go_at_call 27; refine (group_in h0 h1 _).mono ?_; rintro e w1 ⟨rfl, hb⟩; have n_ := Aside0.mk (below_step (by repeat (first | exact HB.out | apply pw_below_drewN | apply below_drew1)) hb); clear HB; have HB := n_; clear n_ hb; have x0 := (HB.out.cell (p := ⟨b, g.toNat * 2, none⟩) (blk_lt HL.out)).trans HX.out)
    | (go_at_call 15; refine (HW.out _).mono ?_; rintro e w1 ⟨rfl, hb⟩; have n_ := Aside0.mk (below_step (by repeat (first | exact HB.out | apply pw_below_drewN | apply below_drew1)) hb); clear HB; have HB := n_; clear n_ hb; skip)
    | (go_at_call 27; refine (group_out ho _).mono ?_; rintro e w1 ⟨rfl, hb⟩; have n_ := Aside0.mk (below_step (by repeat (first | exact HB.out | apply pw_below_drewN | apply below_drew1)) hb); clear HB; have HB := n_; clear n_ hb)
    )
  go_ret
  exact ⟨rfl, HB.out⟩
set_option maxRecDepth 100000 in
set_option maxHeartbeats 2000000 in
theorem came_in {b : Nat} {f h : Nat → Int} (x g c tg res : Int) (hk : ∀ W, Calls Try.prog 9 #[.int .u64 x] W fun e w' => e = .returned (.tuple #[.int .i64 g, .int .i64 c, .bool true]) ∧ Below W.heap.size W w') (h0 : 0 ≤ g) (h1 : g < 64) (hw : ∀ W, Calls Try.prog 15 #[.int .u64 x, .int .i64 (f g.toNat), .int .i64 res] W fun e w' => e = .returned (.bool true) ∧ Below W.heap.size W w') (t0 : 0 ≤ tg) (t1 : tg < 64) (W : World) (H : LogAt W b f h) :
    Calls Try.prog 20 #[(.pointer (some ⟨b, 0, none⟩)), .int .u64 x, .int .i64 tg, .int .i64 res] W fun e w' => e = .returned (.bool true) ∧ LogAt w' b f (up h tg.toNat (wrap64 (h tg.toNat + 1))) ∧ Chg W w' (· = b) := by
  have HK := Aside0.mk hk
  clear hk
  have HW := Aside0.mk hw
  clear hw
  have HY := Aside0.mk (H.cellh tg t0 t1)
  have HL := Aside0.mk H
  have HX := Aside0.mk (H.cellf g h0 h1)
  have HI0 := h0
  have HI1 := h1
  have HB := Aside0.mk (Below.refl W.heap.size W)
  clear H
  go_enter Try.func20, Try.ntmps20
  go_wp2_with (first
    | (go_at_call 9; refine (HK.out _).mono ?_; rintro e w1 ⟨rfl, hb⟩; have n_ := Aside0.mk (below_step (by repeat (first | exact HB.out | apply pw_below_drewN | apply below_drew1)) hb); clear HB; have HB := n_; clear n_ hb; have x0 := (HB.out.cell (p := ⟨b, g.toNat * 2, none⟩) (blk_lt HL.out)).trans HX.out)
    | (go_at_call 27; refine (group_in h0 h1 _).mono ?_; rintro e w1 ⟨rfl, hb⟩; have n_ := Aside0.mk (below_step (by repeat (first | exact HB.out | apply pw_below_drewN | apply below_drew1)) hb); clear HB; have HB := n_; clear n_ hb; have x0 := (HB.out.cell (p := ⟨b, g.toNat * 2, none⟩) (blk_lt HL.out)).trans HX.out)
    | (go_at_call 15; refine (HW.out _).mono ?_; rintro e w1 ⟨rfl, hb⟩; have n_ := Aside0.mk (below_step (by repeat (first | exact HB.out | apply pw_below_drewN | apply below_drew1)) hb); clear HB; have HB := n_; clear n_ hb; skip)
    | (go_at_call 27; refine (group_in t0 t1 _).mono ?_; rintro e w1 ⟨rfl, hb⟩; have n_ := Aside0.mk (below_step (by repeat (first | exact HB.out | apply pw_below_drewN | apply below_drew1)) hb); clear HB; have HB := n_; clear n_ hb; skip)
    )
  have HXX := Aside0.mk (show w1.cell? ⟨b, tg.toNat * 2 + 1, none⟩ = _ from (HB.out.cell (p := ⟨b, tg.toNat * 2 + 1, none⟩) (blk_lt HL.out)).trans HY.out)
  have HLL := Aside0.mk (show w1.heap[b]? = _ from (HB.out.block b (blk_lt HL.out)).trans HL.out)
  refine start_ (n := 13) (S := fun w' => w'.cell? ⟨b, tg.toNat * 2 + 1, none⟩ = some (.int .i64 (h tg.toNat))) (ds := [12]) #[false, false, false, false, false, false, false, false, false, false, false, false, false] (by kernel_rfl) rfl rfl HXX.out (fun hHeld => ?_)
  have HT_ : Aside0 (rtab .any (opsOf Try.f20 5) = rtab .any (opsOf Try.f20 5)) := ⟨rfl⟩
  refine pure_ (i := 0) (N := some 40) (v := ?_) (a' := ?_) #[true, false, false, false, false, false, false, false, false, false, false, false, false] rfl rfl (any_of HT_.out (by kernel_rfl)) (fun _ _ _ h => h) (Or.inl ⟨by rfl, ?_⟩) ?_ ?_
  rotate_left
  · intro w'
    go_simp
    with_reducible rfl
  rotate_left
  · simp only [Act.put, List.setIfInBounds_toArray, List.set_cons_zero, List.set_cons_succ, i64_w, i32_w]
    rfl
  refine pure_ (i := 1) (N := some 41) (v := ?_) (a' := ?_) #[true, true, false, false, false, false, false, false, false, false, false, false, false] rfl rfl (any_of HT_.out (by kernel_rfl)) (fun _ _ _ h => h) (Or.inl ⟨by rfl, ?_⟩) ?_ ?_
  rotate_left
  · intro w'
    go_simp
    with_reducible rfl
  rotate_left
  · simp only [Act.put, List.setIfInBounds_toArray, List.set_cons_zero, List.set_cons_succ, i64_w, i32_w]
    rfl
  refine pure_ (i := 2) (N := some 42) (v := ?_) (a' := ?_) #[true, true, true, false, false, false, false, false, false, false, false, false, false] rfl rfl (any_of HT_.out (by kernel_rfl)) (fun _ _ _ h => h) (Or.inl ⟨by rfl, ?_⟩) ?_ ?_
  rotate_left
  · intro w'
    go_simp
    with_reducible rfl
  rotate_left
  · simp only [Act.put, List.setIfInBounds_toArray, List.set_cons_zero, List.set_cons_succ, i64_w, i32_w]
    rfl
  refine pure_ (i := 3) (N := some 43) (v := ?_) (a' := ?_) #[true, true, true, true, false, false, false, false, false, false, false, false, false] rfl rfl (any_of HT_.out (by kernel_rfl)) (fun _ _ _ h => h) (Or.inl ⟨by rfl, ?_⟩) ?_ ?_
  rotate_left
  · intro w'
    go_simp
    with_reducible rfl
  rotate_left
  · simp only [Act.put, List.setIfInBounds_toArray, List.set_cons_zero, List.set_cons_succ, i64_w, i32_w]
    rfl
  refine pure_ (i := 4) (N := some 44) (v := ?_) (a' := ?_) #[true, true, true, true, true, false, false, false, false, false, false, false, false] rfl rfl (any_of HT_.out (by kernel_rfl)) (fun _ _ _ h => h) (Or.inl ⟨by rfl, ?_⟩) ?_ ?_
  rotate_left
  · intro w'
    go_simp
    with_reducible rfl
  rotate_left
  · simp only [Act.put, List.setIfInBounds_toArray, List.set_cons_zero, List.set_cons_succ, i64_w, i32_w]
    rfl
  refine pure_ (i := 5) (N := some 45) (v := ?_) (a' := ?_) #[true, true, true, true, true, true, false, false, false, false, false, false, false] rfl rfl (any_of HT_.out (by kernel_rfl)) (fun _ _ _ h => h) (Or.inl ⟨by rfl, ?_⟩) ?_ ?_
  rotate_left
  · intro w'
    go_simp
    with_reducible rfl
  rotate_left
  · simp only [Act.put, List.setIfInBounds_toArray, List.set_cons_zero, List.set_cons_succ, i64_w, i32_w]
    rfl
  refine take_ (i := 6) (N := some 46) (v := ?_) (a' := ?_) #[true, true, true, true, true, true, true, false, false, false, false, false, false] rfl rfl (take_of HT_.out (by kernel_rfl)) (fun _ _ _ h => h) (Or.inl ⟨by rfl, ?_⟩) hHeld ?_ ?_
  rotate_left
  · rintro w' s0
    go_simp
    with_reducible rfl
  rotate_left
  · simp only [Act.put, List.setIfInBounds_toArray, List.set_cons_zero, List.set_cons_succ, i64_w, i32_w]
    rfl
  refine pure_ (i := 7) (N := some 47) (v := ?_) (a' := ?_) #[true, true, true, true, true, true, true, true, false, false, false, false, false] rfl rfl (any_of HT_.out (by kernel_rfl)) (fun _ _ _ h => h) (Or.inl ⟨by rfl, ?_⟩) ?_ ?_
  rotate_left
  · intro w'
    go_simp
    with_reducible rfl
  rotate_left
  · simp only [Act.put, List.setIfInBounds_toArray, List.set_cons_zero, List.set_cons_succ, i64_w, i32_w]
    rfl
  refine pure_ (i := 8) (N := some 48) (v := ?_) (a' := ?_) #[true, true, true, true, true, true, true, true, true, false, false, false, false] rfl rfl (any_of HT_.out (by kernel_rfl)) (fun _ _ _ h => h) (Or.inl ⟨by rfl, ?_⟩) ?_ ?_
  rotate_left
  · intro w'
    go_simp
    with_reducible rfl
  rotate_left
  · simp only [Act.put, List.setIfInBounds_toArray, List.set_cons_zero, List.set_cons_succ, i64_w, i32_w]
    rfl
  refine pure_ (i := 9) (N := some 49) (v := ?_) (a' := ?_) #[true, true, true, true, true, true, true, true, true, true, false, false, false] rfl rfl (any_of HT_.out (by kernel_rfl)) (fun _ _ _ h => h) (Or.inl ⟨by rfl, ?_⟩) ?_ ?_
  rotate_left
  · intro w'
    go_simp
    with_reducible rfl
  rotate_left
  · simp only [Act.put, List.setIfInBounds_toArray, List.set_cons_zero, List.set_cons_succ, i64_w, i32_w]
    rfl
  refine pure_ (i := 10) (N := some 50) (v := ?_) (a' := ?_) #[true, true, true, true, true, true, true, true, true, true, true, false, false] rfl rfl (any_of HT_.out (by kernel_rfl)) (fun _ _ _ h => h) (Or.inl ⟨by rfl, ?_⟩) ?_ ?_
  rotate_left
  · intro w'
    go_simp
    with_reducible rfl
  rotate_left
  · simp only [Act.put, List.setIfInBounds_toArray, List.set_cons_zero, List.set_cons_succ, i64_w, i32_w]
    rfl
  refine pure_ (i := 11) (N := some 51) (v := ?_) (a' := ?_) #[true, true, true, true, true, true, true, true, true, true, true, true, false] rfl rfl (any_of HT_.out (by kernel_rfl)) (fun _ _ _ h => h) (Or.inl ⟨by rfl, ?_⟩) ?_ ?_
  rotate_left
  · intro w'
    go_simp
    with_reducible rfl
  rotate_left
  · simp only [Act.put, List.setIfInBounds_toArray, List.set_cons_zero, List.set_cons_succ, i64_w, i32_w]
    rfl
  refine last_ (i := 12) (N := none) #[true, true, true, true, true, true, true, true, true, true, true, true, true] rfl rfl (one_of HT_.out (by kernel_rfl)) (by decide) (fun K hK => ?_)
  have c0 : w1.drew.cell? ⟨b, tg.toNat * 2 + 1, none⟩ = some (.int .i64 (h tg.toNat)) := HXX.out
  have d0 : w1.drew.frozen? ⟨b, tg.toNat * 2 + 1, none⟩ = false := blk_frozen HLL.out _
  go_simp
  refine hK.out _ _ ?_
  clear hK K
  refine done_ (done_of HT_.out (by kernel_rfl)) ?_
  go_wp2
  go_ret
  refine ⟨rfl, ?_, (Chg.trans (Chg.of_below HB.out) (Chg.set _ _ _ _)).drew⟩
  have hp := blk_set HLL.out (tg.toNat * 2 + 1) (.int .i64 (wrap64 (h tg.toNat + 1)))
  rw [logC_puth] at hp
  exact hp
theorem zero57 (W : World) : (zeroValue 57).run Try.prog W = .ok (.agg (Array.replicate 128 (.int .i64 0))) W := by kernel_rfl
theorem logC_zero : Array.replicate 128 (.int .i64 0) = logC (fun _ => 0) (fun _ => 0) := by
  apply Array.ext
  · simp [logC]
  · intro j h1 h2
    simp [logC]
set_option maxRecDepth 100000 in
set_option maxHeartbeats 2000000 in
theorem new_log (W : World) : Calls Try.prog 16 #[] W fun e w' => ∃ b, e = .returned (.pointer (some ⟨b, 0, none⟩)) ∧ W.heap.size ≤ b ∧ LogAt w' b (fun _ => 0) (fun _ => 0) ∧ Below W.heap.size W w' := by
  go_enter Try.func16, Try.ntmps16
  go_wp2_with (first
    | ((with_reducible refine gate_dst (N := 1) rfl ?_); refine Kd.event_run rfl (w1 := W) (v := .agg (Array.replicate 128 (.int .i64 0))) ?hr ?_; (case hr => go_simp; simp only [zero57, Result.andThen_ok, Array.foldl, List.foldl]; try rfl))
    | ((with_reducible refine gate_dst (N := 2) rfl ?_); refine box_event rfl (N := 2) rfl (cs := Array.replicate 128 (.int .i64 0)) (t := 57) ?hr ?_; (case hr => first | (go_simp; done) | (go_simp; rfl)); intro b hg w1 hbox hb; have HX := Aside0.mk hbox; have HB := Aside0.mk hb; have HG := Aside0.mk hg; clear hbox hb hg)
    | fail)
  go_ret
  exact ⟨b, rfl, by rw [HG.out]; exact Nat.le_refl _, by have := HX.out; rw [logC_zero] at this; exact this, HB.out⟩
end Go.Proofs.Ytpkpipkjmlhfaaa.A
