/- The walk through ShadowNear. -/
import Derived.Test.YtpkpipkjmlhfaaaWorks
import Derived.Test.YtpkpipkjmlhfaaaHL
import Derived.RowKit3
namespace Go.Proofs.Ytpkpipkjmlhfaaa.Pure
open Go.RowKit Go.Proofs.Ytpkpipkjmlhfaaa.A Go.Proofs.Ytpkpipkjmlhfaaa.Ev Go.Proofs.YtpkpipkjmlhfaaaW.PrintWords Go.Proofs.YtpkpipkjmlhfaaaW.PrintLast Go.Proofs.YtpkpipkjmlhfaaaW.PrintMore
set_option linter.unusedVariables false
set_option linter.unusedSimpArgs false
open Go.Proofs.Ytpkpipkjmlhfaaa.HL
/-- The clocks behind i that went of group 5. -/
def fN (i : Int) : Nat → Int := up f0 5 i
theorem fN_up (i : Int) : up (fN i) 5 (i + 1) = fN (i + 1) := by
  funext j; unfold fN A.up; split <;> rfl
theorem fN_5 (i : Int) : fN i 5 = i := by simp [fN, A.up]
theorem n_went {b : Nat} (i : Int) (h0 : 0 ≤ i) (h1 : i < 60) (W : World) (H : LogAt W b (fN i) f0) : Calls Try.prog 18 #[.pointer (some ⟨b, 0, none⟩), .int .i64 5] W fun e w' => e = .returned (.int .u64 (mk 5 i)) ∧ LogAt w' b (fN (i + 1)) f0 ∧ Chg W w' (· = b) := by
  have e0 : fN i (5 : Int).toNat = i := fN_5 i
  have h := went_in (b := b) (f := fN i) (h := f0) 5 (by decide) (by decide) (mk 5 i) (by rw [e0]; exact k_make 5 i (by decide)) W H
  have e : wrap64 (fN i (5 : Int).toNat + 1) = i + 1 := by rw [e0]; unfold wrap64; omega
  rw [e] at h
  have e2 : up (fN i) (5 : Int).toNat (i + 1) = fN (i + 1) := fN_up i
  rw [e2] at h; exact h
theorem n_look (a : Int) (h0 : 0 ≤ a) (h1 : a < 60) (W : World) : Calls Try.prog 9 #[.int .u64 (mk 5 a)] W fun e w' => e = .returned (.tuple #[.int .i64 5, .int .i64 a, .bool true]) ∧ Below W.heap.size W w' := by
  have hm := mk_range 5 a
  have h := k_look (mk 5 a) hm.1 (by omega) W
  rw [look_mk 5 a (by decide) (by omega)] at h; exact h
theorem n_near (a n r : Int) (h0 : 0 ≤ a) (h1 : a < n) (h2 : n ≤ 60) (W : World) : Calls Try.prog 15 #[.int .u64 (mk 5 a), .int .i64 (fN n (5 : Int).toNat), .int .i64 r] W fun e w' => e = .returned (.bool (decide (n - a ≤ r))) ∧ Below W.heap.size W w' := by
  have hm := mk_range 5 a
  have e0 : fN n (5 : Int).toNat = n := fN_5 n
  have h := k_near (mk 5 a) n r hm.1 (by omega) (by omega) W
  have e : nearS (mk 5 a) n r = decide (n - a ≤ r) := by
    unfold nearS
    rw [dist_mk 5 a n (by decide) (by omega) (by omega)]
    have : (n - a) % 1099511627776 = n - a := by omega
    rw [this, decide_eq_true (by omega : 0 ≤ n - a), Bool.true_and]
  rw [e] at h; rw [e0]; exact h
/-- What comes back, near or not. -/
theorem n_came {b : Nat} (a n r : Int) (h : Nat → Int) (h0 : 0 ≤ a) (h1 : a < n) (h2 : n ≤ 60) (c : Int) (hc : h 7 = c) (c0 : 0 ≤ c) (c1 : c < 10) (W : World) (H : LogAt W b (fN n) h) : Calls Try.prog 20 #[.pointer (some ⟨b, 0, none⟩), .int .u64 (mk 5 a), .int .i64 7, .int .i64 r] W fun e w' => e = .returned (.bool (decide (n - a ≤ r))) ∧ LogAt w' b (fN n) (if n - a ≤ r then up h 7 (c + 1) else h) ∧ Chg W w' (· = b) := by
  have hn := n_near a n r h0 h1 h2
  by_cases hr : n - a ≤ r
  · rw [decide_eq_true hr] at hn ⊢
    rw [if_pos hr]
    have hx := came_in (b := b) (f := fN n) (h := h) (mk 5 a) 5 a 7 r (n_look a h0 (by omega)) (by decide) (by decide) hn (by decide) (by decide) W H
    have e : wrap64 (h (7 : Int).toNat + 1) = c + 1 := by
      have : h (7 : Int).toNat = c := hc
      rw [this]; unfold wrap64; omega
    rw [e] at hx; exact hx
  · rw [decide_eq_false hr] at hn ⊢
    rw [if_neg hr]
    exact (came_no (b := b) (f := fN n) (h := h) (mk 5 a) 5 a 7 r (n_look a h0 (by omega)) (by decide) (by decide) hn W H).mono fun e w' ⟨e1, hb⟩ => ⟨e1, (hb.block b (blk_lt H)).trans H, Chg.of_below hb⟩
theorem n_back {b : Nat} {f h : Nat → Int} (c : Int) (hc : h 7 = c) (W : World) (H : LogAt W b f h) : Calls Try.prog 23 #[.pointer (some ⟨b, 0, none⟩), .int .i64 7] W fun e w' => e = .returned (.int .i64 c) ∧ Below W.heap.size W w' := by
  have hx := back_in (b := b) (f := f) (h := h) 7 (by decide) (by decide) W H
  have e : h (7 : Int).toNat = c := hc
  rw [e] at hx; exact hx
theorem up7 (h : Nat → Int) (c : Int) : up h 7 c 7 = c := by simp [A.up]
attribute [local irreducible] logC f0 A.up mk lookS distS nearS fN
set_option maxRecDepth 100000 in
set_option maxHeartbeats 2000000 in
theorem near_out0 (n at_ res more : Int)  (h0 : n < 1) (W : World) : Calls Try.prog 7 #[.int .i64 n, .int .i64 at_, .int .i64 res, .int .i64 more] W fun e w' => e = .returned (.bool true) ∧ Below W.heap.size W w' := by
  have hM : Hp W (fun _ => False) [] W := Hp.start
  refine TC.enter (n := 111) Try.func7 rfl rfl rfl hM ?_
  refine TC.seq ?_
  refine TC.region ?_
  refine' TL.y rfl rfl rfl ?hy1 ?_
  case hy1 => exact Yl.assign rfl rfl
  refine TL.nil ?_
  refine TE.next ?_
  refine TC.seq ?_
  refine TC.region ?_
  refine' TL.c rfl rfl rfl ?hy2 ?_
  case hy2 => exact Yc.call rfl Try.func8 (by kernel_rfl) rfl rfl (Hp.calls (fun w h => works_walk w))
  intro _
  refine' TL.y rfl rfl rfl ?hy3 ?_
  case hy3 => exact Yl.assign rfl rfl
  refine TL.nil ?_
  refine TE.next ?_
  refine TC.seq ?_
  refine TC.seq ?_
  refine TC.region ?_
  refine' TL.y rfl rfl rfl ?hy4 ?_
  case hy4 => exact Yl.move rfl rfl
  refine' TL.y rfl rfl rfl ?hy5 ?_
  case hy5 => exact Yl.not rfl rfl
  refine TL.nil ?_
  refine TE.next ?_
  refine TC.no rfl rfl ?_
  refine TC.skip ?_
  refine TE.next ?_
  refine TC.seq ?_
  refine TC.seq ?_
  refine TC.region ?_
  refine' TL.y rfl rfl rfl ?hy6 ?_
  case hy6 => exact Yl.move rfl rfl
  refine' TL.y rfl rfl rfl ?hy7 ?_
  case hy7 => exact Yl.bin rfl rfl rfl (Bin.lss _ _ _ _)
  refine' TL.y rfl rfl rfl ?hy8 ?_
  case hy8 => exact Yl.move rfl rfl
  refine TL.re (i := 23) (v' := .bool true) rfl (congrArg Value.bool (by first | (simp; done) | (simp; omega))) ?_
  refine TL.skip rfl rfl rfl ?_
  refine TL.skip rfl rfl rfl ?_
  refine' TL.y rfl rfl rfl ?hy9 ?_
  case hy9 => exact Yl.pickT rfl rfl rfl
  refine' TL.y rfl rfl rfl ?hy10 ?_
  case hy10 => exact Yl.move rfl rfl
  refine TL.skip rfl rfl rfl ?_
  refine TL.skip rfl rfl rfl ?_
  refine' TL.y rfl rfl rfl ?hy11 ?_
  case hy11 => exact Yl.pickT rfl rfl rfl
  refine' TL.y rfl rfl rfl ?hy12 ?_
  case hy12 => exact Yl.move rfl rfl
  refine TL.skip rfl rfl rfl ?_
  refine TL.skip rfl rfl rfl ?_
  refine TL.skip rfl rfl rfl ?_
  refine' TL.y rfl rfl rfl ?hy13 ?_
  case hy13 => exact Yl.pickT rfl rfl rfl
  refine' TL.y rfl rfl rfl ?hy14 ?_
  case hy14 => exact Yl.move rfl rfl
  refine TL.skip rfl rfl rfl ?_
  refine TL.skip rfl rfl rfl ?_
  refine' TL.y rfl rfl rfl ?hy15 ?_
  case hy15 => exact Yl.pickT rfl rfl rfl
  refine' TL.y rfl rfl rfl ?hy16 ?_
  case hy16 => exact Yl.move rfl rfl
  refine TL.skip rfl rfl rfl ?_
  refine TL.skip rfl rfl rfl ?_
  refine' TL.y rfl rfl rfl ?hy17 ?_
  case hy17 => exact Yl.pickT rfl rfl rfl
  refine' TL.y rfl rfl rfl ?hy18 ?_
  case hy18 => exact Yl.move rfl rfl
  refine TL.skip rfl rfl rfl ?_
  refine TL.skip rfl rfl rfl ?_
  refine' TL.y rfl rfl rfl ?hy19 ?_
  case hy19 => exact Yl.pickT rfl rfl rfl
  refine' TL.y rfl rfl rfl ?hy20 ?_
  case hy20 => exact Yl.move rfl rfl
  refine TL.skip rfl rfl rfl ?_
  refine TL.skip rfl rfl rfl ?_
  refine' TL.y rfl rfl rfl ?hy21 ?_
  case hy21 => exact Yl.pickT rfl rfl rfl
  refine TL.nil ?_
  refine TE.next ?_
  refine TC.yes rfl rfl ?_
  refine TC.seq ?_
  refine TC.region ?_
  refine' TL.y rfl rfl rfl ?hy22 ?_
  case hy22 => exact Yl.move rfl rfl
  refine' TL.y rfl rfl rfl ?hy23 ?_
  case hy23 => exact Yl.assign rfl rfl
  refine TL.nil ?_
  refine TE.next ?_
  refine TC.ret ?_
  refine TE.thenRet ?_
  refine TE.ret1 rfl rfl ?_
  exact fun w h => ⟨by first | rfl | (simp; done) | (simp; omega), h.below⟩
set_option maxRecDepth 100000 in
set_option maxHeartbeats 2000000 in
theorem near_out1 (n at_ res more : Int) (h0 : ¬ n < 1) (h1 : 60 < n) (W : World) : Calls Try.prog 7 #[.int .i64 n, .int .i64 at_, .int .i64 res, .int .i64 more] W fun e w' => e = .returned (.bool true) ∧ Below W.heap.size W w' := by
  have hM : Hp W (fun _ => False) [] W := Hp.start
  refine TC.enter (n := 111) Try.func7 rfl rfl rfl hM ?_
  refine TC.seq ?_
  refine TC.region ?_
  refine' TL.y rfl rfl rfl ?hy1 ?_
  case hy1 => exact Yl.assign rfl rfl
  refine TL.nil ?_
  refine TE.next ?_
  refine TC.seq ?_
  refine TC.region ?_
  refine' TL.c rfl rfl rfl ?hy2 ?_
  case hy2 => exact Yc.call rfl Try.func8 (by kernel_rfl) rfl rfl (Hp.calls (fun w h => works_walk w))
  intro _
  refine' TL.y rfl rfl rfl ?hy3 ?_
  case hy3 => exact Yl.assign rfl rfl
  refine TL.nil ?_
  refine TE.next ?_
  refine TC.seq ?_
  refine TC.seq ?_
  refine TC.region ?_
  refine' TL.y rfl rfl rfl ?hy4 ?_
  case hy4 => exact Yl.move rfl rfl
  refine' TL.y rfl rfl rfl ?hy5 ?_
  case hy5 => exact Yl.not rfl rfl
  refine TL.nil ?_
  refine TE.next ?_
  refine TC.no rfl rfl ?_
  refine TC.skip ?_
  refine TE.next ?_
  refine TC.seq ?_
  refine TC.seq ?_
  refine TC.region ?_
  refine' TL.y rfl rfl rfl ?hy6 ?_
  case hy6 => exact Yl.move rfl rfl
  refine' TL.y rfl rfl rfl ?hy7 ?_
  case hy7 => exact Yl.bin rfl rfl rfl (Bin.lss _ _ _ _)
  refine' TL.y rfl rfl rfl ?hy8 ?_
  case hy8 => exact Yl.move rfl rfl
  refine TL.re (i := 23) (v' := .bool false) rfl (congrArg Value.bool (by first | (simp; done) | (simp; omega))) ?_
  refine' TL.y rfl rfl rfl ?hy9 ?_
  case hy9 => exact Yl.move rfl rfl
  refine' TL.y rfl rfl rfl ?hy10 ?_
  case hy10 => exact Yl.bin rfl rfl rfl (Bin.gtr _ _ _ _)
  refine' TL.y rfl rfl rfl ?hy11 ?_
  case hy11 => exact Yl.pickF rfl rfl rfl
  refine' TL.y rfl rfl rfl ?hy12 ?_
  case hy12 => exact Yl.move rfl rfl
  refine TL.re (i := 27) (v' := .bool true) rfl (congrArg Value.bool (by first | (simp; done) | (simp; omega))) ?_
  refine TL.skip rfl rfl rfl ?_
  refine TL.skip rfl rfl rfl ?_
  refine' TL.y rfl rfl rfl ?hy13 ?_
  case hy13 => exact Yl.pickT rfl rfl rfl
  refine' TL.y rfl rfl rfl ?hy14 ?_
  case hy14 => exact Yl.move rfl rfl
  refine TL.skip rfl rfl rfl ?_
  refine TL.skip rfl rfl rfl ?_
  refine TL.skip rfl rfl rfl ?_
  refine' TL.y rfl rfl rfl ?hy15 ?_
  case hy15 => exact Yl.pickT rfl rfl rfl
  refine' TL.y rfl rfl rfl ?hy16 ?_
  case hy16 => exact Yl.move rfl rfl
  refine TL.skip rfl rfl rfl ?_
  refine TL.skip rfl rfl rfl ?_
  refine' TL.y rfl rfl rfl ?hy17 ?_
  case hy17 => exact Yl.pickT rfl rfl rfl
  refine' TL.y rfl rfl rfl ?hy18 ?_
  case hy18 => exact Yl.move rfl rfl
  refine TL.skip rfl rfl rfl ?_
  refine TL.skip rfl rfl rfl ?_
  refine' TL.y rfl rfl rfl ?hy19 ?_
  case hy19 => exact Yl.pickT rfl rfl rfl
  refine' TL.y rfl rfl rfl ?hy20 ?_
  case hy20 => exact Yl.move rfl rfl
  refine TL.skip rfl rfl rfl ?_
  refine TL.skip rfl rfl rfl ?_
  refine' TL.y rfl rfl rfl ?hy21 ?_
  case hy21 => exact Yl.pickT rfl rfl rfl
  refine' TL.y rfl rfl rfl ?hy22 ?_
  case hy22 => exact Yl.move rfl rfl
  refine TL.skip rfl rfl rfl ?_
  refine TL.skip rfl rfl rfl ?_
  refine' TL.y rfl rfl rfl ?hy23 ?_
  case hy23 => exact Yl.pickT rfl rfl rfl
  refine TL.nil ?_
  refine TE.next ?_
  refine TC.yes rfl rfl ?_
  refine TC.seq ?_
  refine TC.region ?_
  refine' TL.y rfl rfl rfl ?hy24 ?_
  case hy24 => exact Yl.move rfl rfl
  refine' TL.y rfl rfl rfl ?hy25 ?_
  case hy25 => exact Yl.assign rfl rfl
  refine TL.nil ?_
  refine TE.next ?_
  refine TC.ret ?_
  refine TE.thenRet ?_
  refine TE.ret1 rfl rfl ?_
  exact fun w h => ⟨by first | rfl | (simp; done) | (simp; omega), h.below⟩
set_option maxRecDepth 100000 in
set_option maxHeartbeats 2000000 in
theorem near_out2 (n at_ res more : Int) (h0 : ¬ n < 1) (h1 : ¬ 60 < n) (h2 : at_ < 0) (W : World) : Calls Try.prog 7 #[.int .i64 n, .int .i64 at_, .int .i64 res, .int .i64 more] W fun e w' => e = .returned (.bool true) ∧ Below W.heap.size W w' := by
  have hM : Hp W (fun _ => False) [] W := Hp.start
  refine TC.enter (n := 111) Try.func7 rfl rfl rfl hM ?_
  refine TC.seq ?_
  refine TC.region ?_
  refine' TL.y rfl rfl rfl ?hy1 ?_
  case hy1 => exact Yl.assign rfl rfl
  refine TL.nil ?_
  refine TE.next ?_
  refine TC.seq ?_
  refine TC.region ?_
  refine' TL.c rfl rfl rfl ?hy2 ?_
  case hy2 => exact Yc.call rfl Try.func8 (by kernel_rfl) rfl rfl (Hp.calls (fun w h => works_walk w))
  intro _
  refine' TL.y rfl rfl rfl ?hy3 ?_
  case hy3 => exact Yl.assign rfl rfl
  refine TL.nil ?_
  refine TE.next ?_
  refine TC.seq ?_
  refine TC.seq ?_
  refine TC.region ?_
  refine' TL.y rfl rfl rfl ?hy4 ?_
  case hy4 => exact Yl.move rfl rfl
  refine' TL.y rfl rfl rfl ?hy5 ?_
  case hy5 => exact Yl.not rfl rfl
  refine TL.nil ?_
  refine TE.next ?_
  refine TC.no rfl rfl ?_
  refine TC.skip ?_
  refine TE.next ?_
  refine TC.seq ?_
  refine TC.seq ?_
  refine TC.region ?_
  refine' TL.y rfl rfl rfl ?hy6 ?_
  case hy6 => exact Yl.move rfl rfl
  refine' TL.y rfl rfl rfl ?hy7 ?_
  case hy7 => exact Yl.bin rfl rfl rfl (Bin.lss _ _ _ _)
  refine' TL.y rfl rfl rfl ?hy8 ?_
  case hy8 => exact Yl.move rfl rfl
  refine TL.re (i := 23) (v' := .bool false) rfl (congrArg Value.bool (by first | (simp; done) | (simp; omega))) ?_
  refine' TL.y rfl rfl rfl ?hy9 ?_
  case hy9 => exact Yl.move rfl rfl
  refine' TL.y rfl rfl rfl ?hy10 ?_
  case hy10 => exact Yl.bin rfl rfl rfl (Bin.gtr _ _ _ _)
  refine' TL.y rfl rfl rfl ?hy11 ?_
  case hy11 => exact Yl.pickF rfl rfl rfl
  refine' TL.y rfl rfl rfl ?hy12 ?_
  case hy12 => exact Yl.move rfl rfl
  refine TL.re (i := 27) (v' := .bool false) rfl (congrArg Value.bool (by first | (simp; done) | (simp; omega))) ?_
  refine' TL.y rfl rfl rfl ?hy13 ?_
  case hy13 => exact Yl.move rfl rfl
  refine' TL.y rfl rfl rfl ?hy14 ?_
  case hy14 => exact Yl.bin rfl rfl rfl (Bin.lss _ _ _ _)
  refine' TL.y rfl rfl rfl ?hy15 ?_
  case hy15 => exact Yl.pickF rfl rfl rfl
  refine' TL.y rfl rfl rfl ?hy16 ?_
  case hy16 => exact Yl.move rfl rfl
  refine TL.re (i := 31) (v' := .bool true) rfl (congrArg Value.bool (by first | (simp; done) | (simp; omega))) ?_
  refine TL.skip rfl rfl rfl ?_
  refine TL.skip rfl rfl rfl ?_
  refine TL.skip rfl rfl rfl ?_
  refine' TL.y rfl rfl rfl ?hy17 ?_
  case hy17 => exact Yl.pickT rfl rfl rfl
  refine' TL.y rfl rfl rfl ?hy18 ?_
  case hy18 => exact Yl.move rfl rfl
  refine TL.skip rfl rfl rfl ?_
  refine TL.skip rfl rfl rfl ?_
  refine' TL.y rfl rfl rfl ?hy19 ?_
  case hy19 => exact Yl.pickT rfl rfl rfl
  refine' TL.y rfl rfl rfl ?hy20 ?_
  case hy20 => exact Yl.move rfl rfl
  refine TL.skip rfl rfl rfl ?_
  refine TL.skip rfl rfl rfl ?_
  refine' TL.y rfl rfl rfl ?hy21 ?_
  case hy21 => exact Yl.pickT rfl rfl rfl
  refine' TL.y rfl rfl rfl ?hy22 ?_
  case hy22 => exact Yl.move rfl rfl
  refine TL.skip rfl rfl rfl ?_
  refine TL.skip rfl rfl rfl ?_
  refine' TL.y rfl rfl rfl ?hy23 ?_
  case hy23 => exact Yl.pickT rfl rfl rfl
  refine' TL.y rfl rfl rfl ?hy24 ?_
  case hy24 => exact Yl.move rfl rfl
  refine TL.skip rfl rfl rfl ?_
  refine TL.skip rfl rfl rfl ?_
  refine' TL.y rfl rfl rfl ?hy25 ?_
  case hy25 => exact Yl.pickT rfl rfl rfl
  refine TL.nil ?_
  refine TE.next ?_
  refine TC.yes rfl rfl ?_
  refine TC.seq ?_
  refine TC.region ?_
  refine' TL.y rfl rfl rfl ?hy26 ?_
  case hy26 => exact Yl.move rfl rfl
  refine' TL.y rfl rfl rfl ?hy27 ?_
  case hy27 => exact Yl.assign rfl rfl
  refine TL.nil ?_
  refine TE.next ?_
  refine TC.ret ?_
  refine TE.thenRet ?_
  refine TE.ret1 rfl rfl ?_
  exact fun w h => ⟨by first | rfl | (simp; done) | (simp; omega), h.below⟩
set_option maxRecDepth 100000 in
set_option maxHeartbeats 2000000 in
theorem near_out3 (n at_ res more : Int) (h0 : ¬ n < 1) (h1 : ¬ 60 < n) (h2 : ¬ at_ < 0) (h3 : n ≤ at_) (W : World) : Calls Try.prog 7 #[.int .i64 n, .int .i64 at_, .int .i64 res, .int .i64 more] W fun e w' => e = .returned (.bool true) ∧ Below W.heap.size W w' := by
  have hM : Hp W (fun _ => False) [] W := Hp.start
  refine TC.enter (n := 111) Try.func7 rfl rfl rfl hM ?_
  refine TC.seq ?_
  refine TC.region ?_
  refine' TL.y rfl rfl rfl ?hy1 ?_
  case hy1 => exact Yl.assign rfl rfl
  refine TL.nil ?_
  refine TE.next ?_
  refine TC.seq ?_
  refine TC.region ?_
  refine' TL.c rfl rfl rfl ?hy2 ?_
  case hy2 => exact Yc.call rfl Try.func8 (by kernel_rfl) rfl rfl (Hp.calls (fun w h => works_walk w))
  intro _
  refine' TL.y rfl rfl rfl ?hy3 ?_
  case hy3 => exact Yl.assign rfl rfl
  refine TL.nil ?_
  refine TE.next ?_
  refine TC.seq ?_
  refine TC.seq ?_
  refine TC.region ?_
  refine' TL.y rfl rfl rfl ?hy4 ?_
  case hy4 => exact Yl.move rfl rfl
  refine' TL.y rfl rfl rfl ?hy5 ?_
  case hy5 => exact Yl.not rfl rfl
  refine TL.nil ?_
  refine TE.next ?_
  refine TC.no rfl rfl ?_
  refine TC.skip ?_
  refine TE.next ?_
  refine TC.seq ?_
  refine TC.seq ?_
  refine TC.region ?_
  refine' TL.y rfl rfl rfl ?hy6 ?_
  case hy6 => exact Yl.move rfl rfl
  refine' TL.y rfl rfl rfl ?hy7 ?_
  case hy7 => exact Yl.bin rfl rfl rfl (Bin.lss _ _ _ _)
  refine' TL.y rfl rfl rfl ?hy8 ?_
  case hy8 => exact Yl.move rfl rfl
  refine TL.re (i := 23) (v' := .bool false) rfl (congrArg Value.bool (by first | (simp; done) | (simp; omega))) ?_
  refine' TL.y rfl rfl rfl ?hy9 ?_
  case hy9 => exact Yl.move rfl rfl
  refine' TL.y rfl rfl rfl ?hy10 ?_
  case hy10 => exact Yl.bin rfl rfl rfl (Bin.gtr _ _ _ _)
  refine' TL.y rfl rfl rfl ?hy11 ?_
  case hy11 => exact Yl.pickF rfl rfl rfl
  refine' TL.y rfl rfl rfl ?hy12 ?_
  case hy12 => exact Yl.move rfl rfl
  refine TL.re (i := 27) (v' := .bool false) rfl (congrArg Value.bool (by first | (simp; done) | (simp; omega))) ?_
  refine' TL.y rfl rfl rfl ?hy13 ?_
  case hy13 => exact Yl.move rfl rfl
  refine' TL.y rfl rfl rfl ?hy14 ?_
  case hy14 => exact Yl.bin rfl rfl rfl (Bin.lss _ _ _ _)
  refine' TL.y rfl rfl rfl ?hy15 ?_
  case hy15 => exact Yl.pickF rfl rfl rfl
  refine' TL.y rfl rfl rfl ?hy16 ?_
  case hy16 => exact Yl.move rfl rfl
  refine TL.re (i := 31) (v' := .bool false) rfl (congrArg Value.bool (by first | (simp; done) | (simp; omega))) ?_
  refine' TL.y rfl rfl rfl ?hy17 ?_
  case hy17 => exact Yl.move rfl rfl
  refine' TL.y rfl rfl rfl ?hy18 ?_
  case hy18 => exact Yl.move rfl rfl
  refine' TL.y rfl rfl rfl ?hy19 ?_
  case hy19 => exact Yl.bin rfl rfl rfl (Bin.geq _ _ _ _)
  refine' TL.y rfl rfl rfl ?hy20 ?_
  case hy20 => exact Yl.pickF rfl rfl rfl
  refine' TL.y rfl rfl rfl ?hy21 ?_
  case hy21 => exact Yl.move rfl rfl
  refine TL.re (i := 36) (v' := .bool true) rfl (congrArg Value.bool (by first | (simp; done) | (simp; omega))) ?_
  refine TL.skip rfl rfl rfl ?_
  refine TL.skip rfl rfl rfl ?_
  refine' TL.y rfl rfl rfl ?hy22 ?_
  case hy22 => exact Yl.pickT rfl rfl rfl
  refine' TL.y rfl rfl rfl ?hy23 ?_
  case hy23 => exact Yl.move rfl rfl
  refine TL.skip rfl rfl rfl ?_
  refine TL.skip rfl rfl rfl ?_
  refine' TL.y rfl rfl rfl ?hy24 ?_
  case hy24 => exact Yl.pickT rfl rfl rfl
  refine' TL.y rfl rfl rfl ?hy25 ?_
  case hy25 => exact Yl.move rfl rfl
  refine TL.skip rfl rfl rfl ?_
  refine TL.skip rfl rfl rfl ?_
  refine' TL.y rfl rfl rfl ?hy26 ?_
  case hy26 => exact Yl.pickT rfl rfl rfl
  refine' TL.y rfl rfl rfl ?hy27 ?_
  case hy27 => exact Yl.move rfl rfl
  refine TL.skip rfl rfl rfl ?_
  refine TL.skip rfl rfl rfl ?_
  refine' TL.y rfl rfl rfl ?hy28 ?_
  case hy28 => exact Yl.pickT rfl rfl rfl
  refine TL.nil ?_
  refine TE.next ?_
  refine TC.yes rfl rfl ?_
  refine TC.seq ?_
  refine TC.region ?_
  refine' TL.y rfl rfl rfl ?hy29 ?_
  case hy29 => exact Yl.move rfl rfl
  refine' TL.y rfl rfl rfl ?hy30 ?_
  case hy30 => exact Yl.assign rfl rfl
  refine TL.nil ?_
  refine TE.next ?_
  refine TC.ret ?_
  refine TE.thenRet ?_
  refine TE.ret1 rfl rfl ?_
  exact fun w h => ⟨by first | rfl | (simp; done) | (simp; omega), h.below⟩
set_option maxRecDepth 100000 in
set_option maxHeartbeats 2000000 in
theorem near_out4 (n at_ res more : Int) (h0 : ¬ n < 1) (h1 : ¬ 60 < n) (h2 : ¬ at_ < 0) (h3 : ¬ n ≤ at_) (h4 : res < 0) (W : World) : Calls Try.prog 7 #[.int .i64 n, .int .i64 at_, .int .i64 res, .int .i64 more] W fun e w' => e = .returned (.bool true) ∧ Below W.heap.size W w' := by
  have hM : Hp W (fun _ => False) [] W := Hp.start
  refine TC.enter (n := 111) Try.func7 rfl rfl rfl hM ?_
  refine TC.seq ?_
  refine TC.region ?_
  refine' TL.y rfl rfl rfl ?hy1 ?_
  case hy1 => exact Yl.assign rfl rfl
  refine TL.nil ?_
  refine TE.next ?_
  refine TC.seq ?_
  refine TC.region ?_
  refine' TL.c rfl rfl rfl ?hy2 ?_
  case hy2 => exact Yc.call rfl Try.func8 (by kernel_rfl) rfl rfl (Hp.calls (fun w h => works_walk w))
  intro _
  refine' TL.y rfl rfl rfl ?hy3 ?_
  case hy3 => exact Yl.assign rfl rfl
  refine TL.nil ?_
  refine TE.next ?_
  refine TC.seq ?_
  refine TC.seq ?_
  refine TC.region ?_
  refine' TL.y rfl rfl rfl ?hy4 ?_
  case hy4 => exact Yl.move rfl rfl
  refine' TL.y rfl rfl rfl ?hy5 ?_
  case hy5 => exact Yl.not rfl rfl
  refine TL.nil ?_
  refine TE.next ?_
  refine TC.no rfl rfl ?_
  refine TC.skip ?_
  refine TE.next ?_
  refine TC.seq ?_
  refine TC.seq ?_
  refine TC.region ?_
  refine' TL.y rfl rfl rfl ?hy6 ?_
  case hy6 => exact Yl.move rfl rfl
  refine' TL.y rfl rfl rfl ?hy7 ?_
  case hy7 => exact Yl.bin rfl rfl rfl (Bin.lss _ _ _ _)
  refine' TL.y rfl rfl rfl ?hy8 ?_
  case hy8 => exact Yl.move rfl rfl
  refine TL.re (i := 23) (v' := .bool false) rfl (congrArg Value.bool (by first | (simp; done) | (simp; omega))) ?_
  refine' TL.y rfl rfl rfl ?hy9 ?_
  case hy9 => exact Yl.move rfl rfl
  refine' TL.y rfl rfl rfl ?hy10 ?_
  case hy10 => exact Yl.bin rfl rfl rfl (Bin.gtr _ _ _ _)
  refine' TL.y rfl rfl rfl ?hy11 ?_
  case hy11 => exact Yl.pickF rfl rfl rfl
  refine' TL.y rfl rfl rfl ?hy12 ?_
  case hy12 => exact Yl.move rfl rfl
  refine TL.re (i := 27) (v' := .bool false) rfl (congrArg Value.bool (by first | (simp; done) | (simp; omega))) ?_
  refine' TL.y rfl rfl rfl ?hy13 ?_
  case hy13 => exact Yl.move rfl rfl
  refine' TL.y rfl rfl rfl ?hy14 ?_
  case hy14 => exact Yl.bin rfl rfl rfl (Bin.lss _ _ _ _)
  refine' TL.y rfl rfl rfl ?hy15 ?_
  case hy15 => exact Yl.pickF rfl rfl rfl
  refine' TL.y rfl rfl rfl ?hy16 ?_
  case hy16 => exact Yl.move rfl rfl
  refine TL.re (i := 31) (v' := .bool false) rfl (congrArg Value.bool (by first | (simp; done) | (simp; omega))) ?_
  refine' TL.y rfl rfl rfl ?hy17 ?_
  case hy17 => exact Yl.move rfl rfl
  refine' TL.y rfl rfl rfl ?hy18 ?_
  case hy18 => exact Yl.move rfl rfl
  refine' TL.y rfl rfl rfl ?hy19 ?_
  case hy19 => exact Yl.bin rfl rfl rfl (Bin.geq _ _ _ _)
  refine' TL.y rfl rfl rfl ?hy20 ?_
  case hy20 => exact Yl.pickF rfl rfl rfl
  refine' TL.y rfl rfl rfl ?hy21 ?_
  case hy21 => exact Yl.move rfl rfl
  refine TL.re (i := 36) (v' := .bool false) rfl (congrArg Value.bool (by first | (simp; done) | (simp; omega))) ?_
  refine' TL.y rfl rfl rfl ?hy22 ?_
  case hy22 => exact Yl.move rfl rfl
  refine' TL.y rfl rfl rfl ?hy23 ?_
  case hy23 => exact Yl.bin rfl rfl rfl (Bin.lss _ _ _ _)
  refine' TL.y rfl rfl rfl ?hy24 ?_
  case hy24 => exact Yl.pickF rfl rfl rfl
  refine' TL.y rfl rfl rfl ?hy25 ?_
  case hy25 => exact Yl.move rfl rfl
  refine TL.re (i := 40) (v' := .bool true) rfl (congrArg Value.bool (by first | (simp; done) | (simp; omega))) ?_
  refine TL.skip rfl rfl rfl ?_
  refine TL.skip rfl rfl rfl ?_
  refine' TL.y rfl rfl rfl ?hy26 ?_
  case hy26 => exact Yl.pickT rfl rfl rfl
  refine' TL.y rfl rfl rfl ?hy27 ?_
  case hy27 => exact Yl.move rfl rfl
  refine TL.skip rfl rfl rfl ?_
  refine TL.skip rfl rfl rfl ?_
  refine' TL.y rfl rfl rfl ?hy28 ?_
  case hy28 => exact Yl.pickT rfl rfl rfl
  refine' TL.y rfl rfl rfl ?hy29 ?_
  case hy29 => exact Yl.move rfl rfl
  refine TL.skip rfl rfl rfl ?_
  refine TL.skip rfl rfl rfl ?_
  refine' TL.y rfl rfl rfl ?hy30 ?_
  case hy30 => exact Yl.pickT rfl rfl rfl
  refine TL.nil ?_
  refine TE.next ?_
  refine TC.yes rfl rfl ?_
  refine TC.seq ?_
  refine TC.region ?_
  refine' TL.y rfl rfl rfl ?hy31 ?_
  case hy31 => exact Yl.move rfl rfl
  refine' TL.y rfl rfl rfl ?hy32 ?_
  case hy32 => exact Yl.assign rfl rfl
  refine TL.nil ?_
  refine TE.next ?_
  refine TC.ret ?_
  refine TE.thenRet ?_
  refine TE.ret1 rfl rfl ?_
  exact fun w h => ⟨by first | rfl | (simp; done) | (simp; omega), h.below⟩
set_option maxRecDepth 100000 in
set_option maxHeartbeats 2000000 in
theorem near_out5 (n at_ res more : Int) (h0 : ¬ n < 1) (h1 : ¬ 60 < n) (h2 : ¬ at_ < 0) (h3 : ¬ n ≤ at_) (h4 : ¬ res < 0) (h5 : 1000 < res) (W : World) : Calls Try.prog 7 #[.int .i64 n, .int .i64 at_, .int .i64 res, .int .i64 more] W fun e w' => e = .returned (.bool true) ∧ Below W.heap.size W w' := by
  have hM : Hp W (fun _ => False) [] W := Hp.start
  refine TC.enter (n := 111) Try.func7 rfl rfl rfl hM ?_
  refine TC.seq ?_
  refine TC.region ?_
  refine' TL.y rfl rfl rfl ?hy1 ?_
  case hy1 => exact Yl.assign rfl rfl
  refine TL.nil ?_
  refine TE.next ?_
  refine TC.seq ?_
  refine TC.region ?_
  refine' TL.c rfl rfl rfl ?hy2 ?_
  case hy2 => exact Yc.call rfl Try.func8 (by kernel_rfl) rfl rfl (Hp.calls (fun w h => works_walk w))
  intro _
  refine' TL.y rfl rfl rfl ?hy3 ?_
  case hy3 => exact Yl.assign rfl rfl
  refine TL.nil ?_
  refine TE.next ?_
  refine TC.seq ?_
  refine TC.seq ?_
  refine TC.region ?_
  refine' TL.y rfl rfl rfl ?hy4 ?_
  case hy4 => exact Yl.move rfl rfl
  refine' TL.y rfl rfl rfl ?hy5 ?_
  case hy5 => exact Yl.not rfl rfl
  refine TL.nil ?_
  refine TE.next ?_
  refine TC.no rfl rfl ?_
  refine TC.skip ?_
  refine TE.next ?_
  refine TC.seq ?_
  refine TC.seq ?_
  refine TC.region ?_
  refine' TL.y rfl rfl rfl ?hy6 ?_
  case hy6 => exact Yl.move rfl rfl
  refine' TL.y rfl rfl rfl ?hy7 ?_
  case hy7 => exact Yl.bin rfl rfl rfl (Bin.lss _ _ _ _)
  refine' TL.y rfl rfl rfl ?hy8 ?_
  case hy8 => exact Yl.move rfl rfl
  refine TL.re (i := 23) (v' := .bool false) rfl (congrArg Value.bool (by first | (simp; done) | (simp; omega))) ?_
  refine' TL.y rfl rfl rfl ?hy9 ?_
  case hy9 => exact Yl.move rfl rfl
  refine' TL.y rfl rfl rfl ?hy10 ?_
  case hy10 => exact Yl.bin rfl rfl rfl (Bin.gtr _ _ _ _)
  refine' TL.y rfl rfl rfl ?hy11 ?_
  case hy11 => exact Yl.pickF rfl rfl rfl
  refine' TL.y rfl rfl rfl ?hy12 ?_
  case hy12 => exact Yl.move rfl rfl
  refine TL.re (i := 27) (v' := .bool false) rfl (congrArg Value.bool (by first | (simp; done) | (simp; omega))) ?_
  refine' TL.y rfl rfl rfl ?hy13 ?_
  case hy13 => exact Yl.move rfl rfl
  refine' TL.y rfl rfl rfl ?hy14 ?_
  case hy14 => exact Yl.bin rfl rfl rfl (Bin.lss _ _ _ _)
  refine' TL.y rfl rfl rfl ?hy15 ?_
  case hy15 => exact Yl.pickF rfl rfl rfl
  refine' TL.y rfl rfl rfl ?hy16 ?_
  case hy16 => exact Yl.move rfl rfl
  refine TL.re (i := 31) (v' := .bool false) rfl (congrArg Value.bool (by first | (simp; done) | (simp; omega))) ?_
  refine' TL.y rfl rfl rfl ?hy17 ?_
  case hy17 => exact Yl.move rfl rfl
  refine' TL.y rfl rfl rfl ?hy18 ?_
  case hy18 => exact Yl.move rfl rfl
  refine' TL.y rfl rfl rfl ?hy19 ?_
  case hy19 => exact Yl.bin rfl rfl rfl (Bin.geq _ _ _ _)
  refine' TL.y rfl rfl rfl ?hy20 ?_
  case hy20 => exact Yl.pickF rfl rfl rfl
  refine' TL.y rfl rfl rfl ?hy21 ?_
  case hy21 => exact Yl.move rfl rfl
  refine TL.re (i := 36) (v' := .bool false) rfl (congrArg Value.bool (by first | (simp; done) | (simp; omega))) ?_
  refine' TL.y rfl rfl rfl ?hy22 ?_
  case hy22 => exact Yl.move rfl rfl
  refine' TL.y rfl rfl rfl ?hy23 ?_
  case hy23 => exact Yl.bin rfl rfl rfl (Bin.lss _ _ _ _)
  refine' TL.y rfl rfl rfl ?hy24 ?_
  case hy24 => exact Yl.pickF rfl rfl rfl
  refine' TL.y rfl rfl rfl ?hy25 ?_
  case hy25 => exact Yl.move rfl rfl
  refine TL.re (i := 40) (v' := .bool false) rfl (congrArg Value.bool (by first | (simp; done) | (simp; omega))) ?_
  refine' TL.y rfl rfl rfl ?hy26 ?_
  case hy26 => exact Yl.move rfl rfl
  refine' TL.y rfl rfl rfl ?hy27 ?_
  case hy27 => exact Yl.bin rfl rfl rfl (Bin.gtr _ _ _ _)
  refine' TL.y rfl rfl rfl ?hy28 ?_
  case hy28 => exact Yl.pickF rfl rfl rfl
  refine' TL.y rfl rfl rfl ?hy29 ?_
  case hy29 => exact Yl.move rfl rfl
  refine TL.re (i := 44) (v' := .bool true) rfl (congrArg Value.bool (by first | (simp; done) | (simp; omega))) ?_
  refine TL.skip rfl rfl rfl ?_
  refine TL.skip rfl rfl rfl ?_
  refine' TL.y rfl rfl rfl ?hy30 ?_
  case hy30 => exact Yl.pickT rfl rfl rfl
  refine' TL.y rfl rfl rfl ?hy31 ?_
  case hy31 => exact Yl.move rfl rfl
  refine TL.skip rfl rfl rfl ?_
  refine TL.skip rfl rfl rfl ?_
  refine' TL.y rfl rfl rfl ?hy32 ?_
  case hy32 => exact Yl.pickT rfl rfl rfl
  refine TL.nil ?_
  refine TE.next ?_
  refine TC.yes rfl rfl ?_
  refine TC.seq ?_
  refine TC.region ?_
  refine' TL.y rfl rfl rfl ?hy33 ?_
  case hy33 => exact Yl.move rfl rfl
  refine' TL.y rfl rfl rfl ?hy34 ?_
  case hy34 => exact Yl.assign rfl rfl
  refine TL.nil ?_
  refine TE.next ?_
  refine TC.ret ?_
  refine TE.thenRet ?_
  refine TE.ret1 rfl rfl ?_
  exact fun w h => ⟨by first | rfl | (simp; done) | (simp; omega), h.below⟩
set_option maxRecDepth 100000 in
set_option maxHeartbeats 2000000 in
theorem near_out6 (n at_ res more : Int) (h0 : ¬ n < 1) (h1 : ¬ 60 < n) (h2 : ¬ at_ < 0) (h3 : ¬ n ≤ at_) (h4 : ¬ res < 0) (h5 : ¬ 1000 < res) (h6 : more < 0) (W : World) : Calls Try.prog 7 #[.int .i64 n, .int .i64 at_, .int .i64 res, .int .i64 more] W fun e w' => e = .returned (.bool true) ∧ Below W.heap.size W w' := by
  have hM : Hp W (fun _ => False) [] W := Hp.start
  refine TC.enter (n := 111) Try.func7 rfl rfl rfl hM ?_
  refine TC.seq ?_
  refine TC.region ?_
  refine' TL.y rfl rfl rfl ?hy1 ?_
  case hy1 => exact Yl.assign rfl rfl
  refine TL.nil ?_
  refine TE.next ?_
  refine TC.seq ?_
  refine TC.region ?_
  refine' TL.c rfl rfl rfl ?hy2 ?_
  case hy2 => exact Yc.call rfl Try.func8 (by kernel_rfl) rfl rfl (Hp.calls (fun w h => works_walk w))
  intro _
  refine' TL.y rfl rfl rfl ?hy3 ?_
  case hy3 => exact Yl.assign rfl rfl
  refine TL.nil ?_
  refine TE.next ?_
  refine TC.seq ?_
  refine TC.seq ?_
  refine TC.region ?_
  refine' TL.y rfl rfl rfl ?hy4 ?_
  case hy4 => exact Yl.move rfl rfl
  refine' TL.y rfl rfl rfl ?hy5 ?_
  case hy5 => exact Yl.not rfl rfl
  refine TL.nil ?_
  refine TE.next ?_
  refine TC.no rfl rfl ?_
  refine TC.skip ?_
  refine TE.next ?_
  refine TC.seq ?_
  refine TC.seq ?_
  refine TC.region ?_
  refine' TL.y rfl rfl rfl ?hy6 ?_
  case hy6 => exact Yl.move rfl rfl
  refine' TL.y rfl rfl rfl ?hy7 ?_
  case hy7 => exact Yl.bin rfl rfl rfl (Bin.lss _ _ _ _)
  refine' TL.y rfl rfl rfl ?hy8 ?_
  case hy8 => exact Yl.move rfl rfl
  refine TL.re (i := 23) (v' := .bool false) rfl (congrArg Value.bool (by first | (simp; done) | (simp; omega))) ?_
  refine' TL.y rfl rfl rfl ?hy9 ?_
  case hy9 => exact Yl.move rfl rfl
  refine' TL.y rfl rfl rfl ?hy10 ?_
  case hy10 => exact Yl.bin rfl rfl rfl (Bin.gtr _ _ _ _)
  refine' TL.y rfl rfl rfl ?hy11 ?_
  case hy11 => exact Yl.pickF rfl rfl rfl
  refine' TL.y rfl rfl rfl ?hy12 ?_
  case hy12 => exact Yl.move rfl rfl
  refine TL.re (i := 27) (v' := .bool false) rfl (congrArg Value.bool (by first | (simp; done) | (simp; omega))) ?_
  refine' TL.y rfl rfl rfl ?hy13 ?_
  case hy13 => exact Yl.move rfl rfl
  refine' TL.y rfl rfl rfl ?hy14 ?_
  case hy14 => exact Yl.bin rfl rfl rfl (Bin.lss _ _ _ _)
  refine' TL.y rfl rfl rfl ?hy15 ?_
  case hy15 => exact Yl.pickF rfl rfl rfl
  refine' TL.y rfl rfl rfl ?hy16 ?_
  case hy16 => exact Yl.move rfl rfl
  refine TL.re (i := 31) (v' := .bool false) rfl (congrArg Value.bool (by first | (simp; done) | (simp; omega))) ?_
  refine' TL.y rfl rfl rfl ?hy17 ?_
  case hy17 => exact Yl.move rfl rfl
  refine' TL.y rfl rfl rfl ?hy18 ?_
  case hy18 => exact Yl.move rfl rfl
  refine' TL.y rfl rfl rfl ?hy19 ?_
  case hy19 => exact Yl.bin rfl rfl rfl (Bin.geq _ _ _ _)
  refine' TL.y rfl rfl rfl ?hy20 ?_
  case hy20 => exact Yl.pickF rfl rfl rfl
  refine' TL.y rfl rfl rfl ?hy21 ?_
  case hy21 => exact Yl.move rfl rfl
  refine TL.re (i := 36) (v' := .bool false) rfl (congrArg Value.bool (by first | (simp; done) | (simp; omega))) ?_
  refine' TL.y rfl rfl rfl ?hy22 ?_
  case hy22 => exact Yl.move rfl rfl
  refine' TL.y rfl rfl rfl ?hy23 ?_
  case hy23 => exact Yl.bin rfl rfl rfl (Bin.lss _ _ _ _)
  refine' TL.y rfl rfl rfl ?hy24 ?_
  case hy24 => exact Yl.pickF rfl rfl rfl
  refine' TL.y rfl rfl rfl ?hy25 ?_
  case hy25 => exact Yl.move rfl rfl
  refine TL.re (i := 40) (v' := .bool false) rfl (congrArg Value.bool (by first | (simp; done) | (simp; omega))) ?_
  refine' TL.y rfl rfl rfl ?hy26 ?_
  case hy26 => exact Yl.move rfl rfl
  refine' TL.y rfl rfl rfl ?hy27 ?_
  case hy27 => exact Yl.bin rfl rfl rfl (Bin.gtr _ _ _ _)
  refine' TL.y rfl rfl rfl ?hy28 ?_
  case hy28 => exact Yl.pickF rfl rfl rfl
  refine' TL.y rfl rfl rfl ?hy29 ?_
  case hy29 => exact Yl.move rfl rfl
  refine TL.re (i := 44) (v' := .bool false) rfl (congrArg Value.bool (by first | (simp; done) | (simp; omega))) ?_
  refine' TL.y rfl rfl rfl ?hy30 ?_
  case hy30 => exact Yl.move rfl rfl
  refine' TL.y rfl rfl rfl ?hy31 ?_
  case hy31 => exact Yl.bin rfl rfl rfl (Bin.lss _ _ _ _)
  refine' TL.y rfl rfl rfl ?hy32 ?_
  case hy32 => exact Yl.pickF rfl rfl rfl
  refine' TL.y rfl rfl rfl ?hy33 ?_
  case hy33 => exact Yl.move rfl rfl
  refine TL.re (i := 48) (v' := .bool true) rfl (congrArg Value.bool (by first | (simp; done) | (simp; omega))) ?_
  refine TL.skip rfl rfl rfl ?_
  refine TL.skip rfl rfl rfl ?_
  refine' TL.y rfl rfl rfl ?hy34 ?_
  case hy34 => exact Yl.pickT rfl rfl rfl
  refine TL.nil ?_
  refine TE.next ?_
  refine TC.yes rfl rfl ?_
  refine TC.seq ?_
  refine TC.region ?_
  refine' TL.y rfl rfl rfl ?hy35 ?_
  case hy35 => exact Yl.move rfl rfl
  refine' TL.y rfl rfl rfl ?hy36 ?_
  case hy36 => exact Yl.assign rfl rfl
  refine TL.nil ?_
  refine TE.next ?_
  refine TC.ret ?_
  refine TE.thenRet ?_
  refine TE.ret1 rfl rfl ?_
  exact fun w h => ⟨by first | rfl | (simp; done) | (simp; omega), h.below⟩
set_option maxRecDepth 100000 in
set_option maxHeartbeats 2000000 in
theorem near_out7 (n at_ res more : Int) (h0 : ¬ n < 1) (h1 : ¬ 60 < n) (h2 : ¬ at_ < 0) (h3 : ¬ n ≤ at_) (h4 : ¬ res < 0) (h5 : ¬ 1000 < res) (h6 : ¬ more < 0) (h7 : 1000 < more) (W : World) : Calls Try.prog 7 #[.int .i64 n, .int .i64 at_, .int .i64 res, .int .i64 more] W fun e w' => e = .returned (.bool true) ∧ Below W.heap.size W w' := by
  have hM : Hp W (fun _ => False) [] W := Hp.start
  refine TC.enter (n := 111) Try.func7 rfl rfl rfl hM ?_
  refine TC.seq ?_
  refine TC.region ?_
  refine' TL.y rfl rfl rfl ?hy1 ?_
  case hy1 => exact Yl.assign rfl rfl
  refine TL.nil ?_
  refine TE.next ?_
  refine TC.seq ?_
  refine TC.region ?_
  refine' TL.c rfl rfl rfl ?hy2 ?_
  case hy2 => exact Yc.call rfl Try.func8 (by kernel_rfl) rfl rfl (Hp.calls (fun w h => works_walk w))
  intro _
  refine' TL.y rfl rfl rfl ?hy3 ?_
  case hy3 => exact Yl.assign rfl rfl
  refine TL.nil ?_
  refine TE.next ?_
  refine TC.seq ?_
  refine TC.seq ?_
  refine TC.region ?_
  refine' TL.y rfl rfl rfl ?hy4 ?_
  case hy4 => exact Yl.move rfl rfl
  refine' TL.y rfl rfl rfl ?hy5 ?_
  case hy5 => exact Yl.not rfl rfl
  refine TL.nil ?_
  refine TE.next ?_
  refine TC.no rfl rfl ?_
  refine TC.skip ?_
  refine TE.next ?_
  refine TC.seq ?_
  refine TC.seq ?_
  refine TC.region ?_
  refine' TL.y rfl rfl rfl ?hy6 ?_
  case hy6 => exact Yl.move rfl rfl
  refine' TL.y rfl rfl rfl ?hy7 ?_
  case hy7 => exact Yl.bin rfl rfl rfl (Bin.lss _ _ _ _)
  refine' TL.y rfl rfl rfl ?hy8 ?_
  case hy8 => exact Yl.move rfl rfl
  refine TL.re (i := 23) (v' := .bool false) rfl (congrArg Value.bool (by first | (simp; done) | (simp; omega))) ?_
  refine' TL.y rfl rfl rfl ?hy9 ?_
  case hy9 => exact Yl.move rfl rfl
  refine' TL.y rfl rfl rfl ?hy10 ?_
  case hy10 => exact Yl.bin rfl rfl rfl (Bin.gtr _ _ _ _)
  refine' TL.y rfl rfl rfl ?hy11 ?_
  case hy11 => exact Yl.pickF rfl rfl rfl
  refine' TL.y rfl rfl rfl ?hy12 ?_
  case hy12 => exact Yl.move rfl rfl
  refine TL.re (i := 27) (v' := .bool false) rfl (congrArg Value.bool (by first | (simp; done) | (simp; omega))) ?_
  refine' TL.y rfl rfl rfl ?hy13 ?_
  case hy13 => exact Yl.move rfl rfl
  refine' TL.y rfl rfl rfl ?hy14 ?_
  case hy14 => exact Yl.bin rfl rfl rfl (Bin.lss _ _ _ _)
  refine' TL.y rfl rfl rfl ?hy15 ?_
  case hy15 => exact Yl.pickF rfl rfl rfl
  refine' TL.y rfl rfl rfl ?hy16 ?_
  case hy16 => exact Yl.move rfl rfl
  refine TL.re (i := 31) (v' := .bool false) rfl (congrArg Value.bool (by first | (simp; done) | (simp; omega))) ?_
  refine' TL.y rfl rfl rfl ?hy17 ?_
  case hy17 => exact Yl.move rfl rfl
  refine' TL.y rfl rfl rfl ?hy18 ?_
  case hy18 => exact Yl.move rfl rfl
  refine' TL.y rfl rfl rfl ?hy19 ?_
  case hy19 => exact Yl.bin rfl rfl rfl (Bin.geq _ _ _ _)
  refine' TL.y rfl rfl rfl ?hy20 ?_
  case hy20 => exact Yl.pickF rfl rfl rfl
  refine' TL.y rfl rfl rfl ?hy21 ?_
  case hy21 => exact Yl.move rfl rfl
  refine TL.re (i := 36) (v' := .bool false) rfl (congrArg Value.bool (by first | (simp; done) | (simp; omega))) ?_
  refine' TL.y rfl rfl rfl ?hy22 ?_
  case hy22 => exact Yl.move rfl rfl
  refine' TL.y rfl rfl rfl ?hy23 ?_
  case hy23 => exact Yl.bin rfl rfl rfl (Bin.lss _ _ _ _)
  refine' TL.y rfl rfl rfl ?hy24 ?_
  case hy24 => exact Yl.pickF rfl rfl rfl
  refine' TL.y rfl rfl rfl ?hy25 ?_
  case hy25 => exact Yl.move rfl rfl
  refine TL.re (i := 40) (v' := .bool false) rfl (congrArg Value.bool (by first | (simp; done) | (simp; omega))) ?_
  refine' TL.y rfl rfl rfl ?hy26 ?_
  case hy26 => exact Yl.move rfl rfl
  refine' TL.y rfl rfl rfl ?hy27 ?_
  case hy27 => exact Yl.bin rfl rfl rfl (Bin.gtr _ _ _ _)
  refine' TL.y rfl rfl rfl ?hy28 ?_
  case hy28 => exact Yl.pickF rfl rfl rfl
  refine' TL.y rfl rfl rfl ?hy29 ?_
  case hy29 => exact Yl.move rfl rfl
  refine TL.re (i := 44) (v' := .bool false) rfl (congrArg Value.bool (by first | (simp; done) | (simp; omega))) ?_
  refine' TL.y rfl rfl rfl ?hy30 ?_
  case hy30 => exact Yl.move rfl rfl
  refine' TL.y rfl rfl rfl ?hy31 ?_
  case hy31 => exact Yl.bin rfl rfl rfl (Bin.lss _ _ _ _)
  refine' TL.y rfl rfl rfl ?hy32 ?_
  case hy32 => exact Yl.pickF rfl rfl rfl
  refine' TL.y rfl rfl rfl ?hy33 ?_
  case hy33 => exact Yl.move rfl rfl
  refine TL.re (i := 48) (v' := .bool false) rfl (congrArg Value.bool (by first | (simp; done) | (simp; omega))) ?_
  refine' TL.y rfl rfl rfl ?hy34 ?_
  case hy34 => exact Yl.move rfl rfl
  refine' TL.y rfl rfl rfl ?hy35 ?_
  case hy35 => exact Yl.bin rfl rfl rfl (Bin.gtr _ _ _ _)
  refine' TL.y rfl rfl rfl ?hy36 ?_
  case hy36 => exact Yl.pickF rfl rfl rfl
  refine TL.nil ?_
  refine TE.next ?_
  refine TC.yes rfl (by first | (simp; done) | (simp; omega)) ?_
  refine TC.seq ?_
  refine TC.region ?_
  refine' TL.y rfl rfl rfl ?hy37 ?_
  case hy37 => exact Yl.move rfl rfl
  refine' TL.y rfl rfl rfl ?hy38 ?_
  case hy38 => exact Yl.assign rfl rfl
  refine TL.nil ?_
  refine TE.next ?_
  refine TC.ret ?_
  refine TE.thenRet ?_
  refine TE.ret1 rfl rfl ?_
  exact fun w h => ⟨by first | rfl | (simp; done) | (simp; omega), h.below⟩
set_option maxRecDepth 100000 in
set_option maxHeartbeats 2000000 in
theorem near_good (n at_ res more : Int) (h0 : ¬ n < 1) (h1 : ¬ 60 < n) (h2 : ¬ at_ < 0) (h3 : ¬ n ≤ at_) (h4 : ¬ res < 0) (h5 : ¬ 1000 < res) (h6 : ¬ more < 0) (h7 : ¬ 1000 < more) (W : World) : Calls Try.prog 7 #[.int .i64 n, .int .i64 at_, .int .i64 res, .int .i64 more] W fun e w' => e = .returned (.bool true) ∧ Below W.heap.size W w' := by
  have hM : Hp W (fun _ => False) [] W := Hp.start
  refine TC.enter (n := 111) Try.func7 rfl rfl rfl hM ?_
  refine TC.seq ?_
  refine TC.region ?_
  refine' TL.y rfl rfl rfl ?hy1 ?_
  case hy1 => exact Yl.assign rfl rfl
  refine TL.nil ?_
  refine TE.next ?_
  refine TC.seq ?_
  refine TC.region ?_
  refine' TL.c rfl rfl rfl ?hy2 ?_
  case hy2 => exact Yc.call rfl Try.func8 (by kernel_rfl) rfl rfl (Hp.calls (fun w h => works_walk w))
  intro _
  refine' TL.y rfl rfl rfl ?hy3 ?_
  case hy3 => exact Yl.assign rfl rfl
  refine TL.nil ?_
  refine TE.next ?_
  refine TC.seq ?_
  refine TC.seq ?_
  refine TC.region ?_
  refine' TL.y rfl rfl rfl ?hy4 ?_
  case hy4 => exact Yl.move rfl rfl
  refine' TL.y rfl rfl rfl ?hy5 ?_
  case hy5 => exact Yl.not rfl rfl
  refine TL.nil ?_
  refine TE.next ?_
  refine TC.no rfl rfl ?_
  refine TC.skip ?_
  refine TE.next ?_
  refine TC.seq ?_
  refine TC.seq ?_
  refine TC.region ?_
  refine' TL.y rfl rfl rfl ?hy6 ?_
  case hy6 => exact Yl.move rfl rfl
  refine' TL.y rfl rfl rfl ?hy7 ?_
  case hy7 => exact Yl.bin rfl rfl rfl (Bin.lss _ _ _ _)
  refine' TL.y rfl rfl rfl ?hy8 ?_
  case hy8 => exact Yl.move rfl rfl
  refine TL.re (i := 23) (v' := .bool false) rfl (congrArg Value.bool (by first | (simp; done) | (simp; omega))) ?_
  refine' TL.y rfl rfl rfl ?hy9 ?_
  case hy9 => exact Yl.move rfl rfl
  refine' TL.y rfl rfl rfl ?hy10 ?_
  case hy10 => exact Yl.bin rfl rfl rfl (Bin.gtr _ _ _ _)
  refine' TL.y rfl rfl rfl ?hy11 ?_
  case hy11 => exact Yl.pickF rfl rfl rfl
  refine' TL.y rfl rfl rfl ?hy12 ?_
  case hy12 => exact Yl.move rfl rfl
  refine TL.re (i := 27) (v' := .bool false) rfl (congrArg Value.bool (by first | (simp; done) | (simp; omega))) ?_
  refine' TL.y rfl rfl rfl ?hy13 ?_
  case hy13 => exact Yl.move rfl rfl
  refine' TL.y rfl rfl rfl ?hy14 ?_
  case hy14 => exact Yl.bin rfl rfl rfl (Bin.lss _ _ _ _)
  refine' TL.y rfl rfl rfl ?hy15 ?_
  case hy15 => exact Yl.pickF rfl rfl rfl
  refine' TL.y rfl rfl rfl ?hy16 ?_
  case hy16 => exact Yl.move rfl rfl
  refine TL.re (i := 31) (v' := .bool false) rfl (congrArg Value.bool (by first | (simp; done) | (simp; omega))) ?_
  refine' TL.y rfl rfl rfl ?hy17 ?_
  case hy17 => exact Yl.move rfl rfl
  refine' TL.y rfl rfl rfl ?hy18 ?_
  case hy18 => exact Yl.move rfl rfl
  refine' TL.y rfl rfl rfl ?hy19 ?_
  case hy19 => exact Yl.bin rfl rfl rfl (Bin.geq _ _ _ _)
  refine' TL.y rfl rfl rfl ?hy20 ?_
  case hy20 => exact Yl.pickF rfl rfl rfl
  refine' TL.y rfl rfl rfl ?hy21 ?_
  case hy21 => exact Yl.move rfl rfl
  refine TL.re (i := 36) (v' := .bool false) rfl (congrArg Value.bool (by first | (simp; done) | (simp; omega))) ?_
  refine' TL.y rfl rfl rfl ?hy22 ?_
  case hy22 => exact Yl.move rfl rfl
  refine' TL.y rfl rfl rfl ?hy23 ?_
  case hy23 => exact Yl.bin rfl rfl rfl (Bin.lss _ _ _ _)
  refine' TL.y rfl rfl rfl ?hy24 ?_
  case hy24 => exact Yl.pickF rfl rfl rfl
  refine' TL.y rfl rfl rfl ?hy25 ?_
  case hy25 => exact Yl.move rfl rfl
  refine TL.re (i := 40) (v' := .bool false) rfl (congrArg Value.bool (by first | (simp; done) | (simp; omega))) ?_
  refine' TL.y rfl rfl rfl ?hy26 ?_
  case hy26 => exact Yl.move rfl rfl
  refine' TL.y rfl rfl rfl ?hy27 ?_
  case hy27 => exact Yl.bin rfl rfl rfl (Bin.gtr _ _ _ _)
  refine' TL.y rfl rfl rfl ?hy28 ?_
  case hy28 => exact Yl.pickF rfl rfl rfl
  refine' TL.y rfl rfl rfl ?hy29 ?_
  case hy29 => exact Yl.move rfl rfl
  refine TL.re (i := 44) (v' := .bool false) rfl (congrArg Value.bool (by first | (simp; done) | (simp; omega))) ?_
  refine' TL.y rfl rfl rfl ?hy30 ?_
  case hy30 => exact Yl.move rfl rfl
  refine' TL.y rfl rfl rfl ?hy31 ?_
  case hy31 => exact Yl.bin rfl rfl rfl (Bin.lss _ _ _ _)
  refine' TL.y rfl rfl rfl ?hy32 ?_
  case hy32 => exact Yl.pickF rfl rfl rfl
  refine' TL.y rfl rfl rfl ?hy33 ?_
  case hy33 => exact Yl.move rfl rfl
  refine TL.re (i := 48) (v' := .bool false) rfl (congrArg Value.bool (by first | (simp; done) | (simp; omega))) ?_
  refine' TL.y rfl rfl rfl ?hy34 ?_
  case hy34 => exact Yl.move rfl rfl
  refine' TL.y rfl rfl rfl ?hy35 ?_
  case hy35 => exact Yl.bin rfl rfl rfl (Bin.gtr _ _ _ _)
  refine' TL.y rfl rfl rfl ?hy36 ?_
  case hy36 => exact Yl.pickF rfl rfl rfl
  refine TL.nil ?_
  refine TE.next ?_
  refine TC.no rfl (by first | (simp; done) | (simp; omega)) ?_
  refine TC.skip ?_
  refine TE.next ?_
  refine TC.seq ?_
  refine TC.region ?_
  refine' TL.c rfl rfl rfl ?hy37 ?_
  case hy37 => exact Yc.call rfl Try.func16 (by kernel_rfl) rfl rfl (Hp.newB (fun w => w_new w))
  intro b1
  refine' TL.y rfl rfl rfl ?hy38 ?_
  case hy38 => exact Yl.assign rfl rfl
  refine TL.nil ?_
  refine TE.next ?_
  refine TC.seq ?_
  refine TC.region ?_
  refine' TL.y rfl rfl rfl ?hy39 ?_
  case hy39 => exact Yl.assign rfl rfl
  refine TL.nil ?_
  refine TE.next ?_
  refine TC.seq ?_
  refine TC.seq ?_
  refine TC.region ?_
  refine' TL.y rfl rfl rfl ?hy40 ?_
  case hy40 => exact Yl.assign rfl rfl
  refine TL.nil ?_
  refine TE.next ?_
  refine TC.block ?_
  refine TC.loop (σ := Int × Int) (fun s => [(0, .int .i64 n), (1, .int .i64 at_), (2, .int .i64 res), (3, .int .i64 more), (9, .bool true), (10, .pointer (some ⟨b1, 0, none⟩)), (11, .int .u64 s.2), (12, .int .i64 s.1)]) (fun s => Hp W (fun _ => False) [blk b1 (.cells (logC (fN s.1) (f0)) 57 (0, 0))]) (fun s => 0 ≤ s.1 ∧ s.1 ≤ n ∧ s.2 = if at_ < s.1 then mk 5 at_ else 0) (fun s => (n - s.1).toNat) (0, 0) ?hF41 ?hs41 ?hm41 ?round41
  case hF41 => exact ⟨by decide, by dsimp only; omega, by dsimp only; rw [if_neg (by omega)]⟩
  case hs41 => exact ⟨rfl, rfl, rfl, rfl, rfl, rfl, rfl, rfl, trivial⟩
  case hm41 => exact fun _ h => by dsimp only; rw [show fN 0 = f0 from funext fun j => by unfold fN A.up f0; split <;> rfl]; exact h
  case round41 =>
    rintro ⟨i, x⟩ ⟨h0, hi, hx⟩
    dsimp only at h0 hi hx ⊢
    refine TC.seq ?_
    refine TC.seq ?_
    refine TC.region ?_
    refine' TL.y rfl rfl rfl ?hy42 ?_
    case hy42 => exact Yl.move rfl rfl
    refine' TL.y rfl rfl rfl ?hy43 ?_
    case hy43 => exact Yl.move rfl rfl
    refine' TL.y rfl rfl rfl ?hy44 ?_
    case hy44 => exact Yl.bin rfl rfl rfl (Bin.lss _ _ _ _)
    refine TL.nil ?_
    refine TE.next ?_
    refine TC.cond rfl (fun hs56 => ?_) (fun hs56 => ?_)
    · skip
      have hlt := of_decide_eq_true hs56
      refine TC.skip ?_
      refine TE.next ?_
      refine TC.seq ?_
      refine TC.block ?_
      refine TC.seq ?_
      refine TC.region ?_
      refine' TL.y rfl rfl rfl ?hy45 ?_
      case hy45 => exact Yl.move rfl rfl
      refine' TL.c rfl rfl rfl ?hy46 ?_
      case hy46 => exact Yc.call rfl Try.func18 (by kernel_rfl) rfl rfl (Hp.turnB mem0 foc0 (fun w h => n_went i (by omega) (by omega) w h))
      intro _
      refine' TL.y rfl rfl rfl ?hy47 ?_
      case hy47 => exact Yl.assign rfl rfl
      refine TL.nil ?_
      refine TE.next ?_
      refine TC.seq ?_
      refine TC.region ?_
      refine' TL.y rfl rfl rfl ?hy48 ?_
      case hy48 => exact Yl.move rfl rfl
      refine' TL.y rfl rfl rfl ?hy49 ?_
      case hy49 => exact Yl.move rfl rfl
      refine' TL.y rfl rfl rfl ?hy50 ?_
      case hy50 => exact Yl.bin rfl rfl rfl (Bin.eql _ _ _ _)
      refine TL.nil ?_
      refine TE.next ?_
      refine TC.cond rfl (fun hs63 => ?_) (fun hs63 => ?_)
      · skip
        refine TC.region ?_
        refine' TL.y rfl rfl rfl ?hy51 ?_
        case hy51 => exact Yl.move rfl rfl
        refine' TL.y rfl rfl rfl ?hy52 ?_
        case hy52 => exact Yl.assign rfl rfl
        refine TL.nil ?_
        refine TE.inNormal ?_
        refine TE.next ?_
        refine TC.region ?_
        refine' TL.y rfl rfl rfl ?hy53 ?_
        case hy53 => exact Yl.move rfl rfl
        refine' TL.y rfl rfl rfl ?hy54 ?_
        case hy54 => first | (refine Yl.val (Yl.bin rfl rfl rfl (Bin.add _ _ _ _)) (congrArg (Value.int .i64) (i64in ?_ ?_)) <;> omega) | exact Yl.bin rfl rfl rfl (Bin.add _ _ _ _)
        refine' TL.y rfl rfl rfl ?hy55 ?_
        case hy55 => exact Yl.assign rfl rfl
        refine TL.nil ?_
        refine TE.round (i + 1, mk 5 i) ?hF56 ?hlt56 ?hs56 ?hm56
        case hF56 => exact ⟨by dsimp only; omega, by dsimp only; omega, by dsimp only; rw [eq_of_beq hs63, if_pos (by omega)]⟩
        case hlt56 => dsimp only; omega
        case hs56 => exact ⟨rfl, rfl, rfl, rfl, rfl, rfl, rfl, rfl, trivial⟩
        case hm56 => exact fun _ h => h
      · skip
        refine TC.skip ?_
        refine TE.inNormal ?_
        refine TE.next ?_
        refine TC.region ?_
        refine' TL.y rfl rfl rfl ?hy57 ?_
        case hy57 => exact Yl.move rfl rfl
        refine' TL.y rfl rfl rfl ?hy58 ?_
        case hy58 => first | (refine Yl.val (Yl.bin rfl rfl rfl (Bin.add _ _ _ _)) (congrArg (Value.int .i64) (i64in ?_ ?_)) <;> omega) | exact Yl.bin rfl rfl rfl (Bin.add _ _ _ _)
        refine' TL.y rfl rfl rfl ?hy59 ?_
        case hy59 => exact Yl.assign rfl rfl
        refine TL.nil ?_
        refine TE.round (i + 1, x) ?hF60 ?hlt60 ?hs60 ?hm60
        case hF60 => exact ⟨by dsimp only; omega, by dsimp only; omega, by dsimp only; have := beq_eq_false_iff_ne.1 hs63; rw [hx]; first | rw [if_pos (by omega), if_pos (by omega)] | (split <;> first | rw [if_pos (by omega)] | rw [if_neg (by omega)])⟩
        case hlt60 => dsimp only; omega
        case hs60 => exact ⟨rfl, rfl, rfl, rfl, rfl, rfl, rfl, rfl, trivial⟩
        case hm60 => exact fun _ h => h
    · skip
      have hlt : ¬ i < n := of_decide_eq_false hs56
      obtain rfl : i = n := by omega
      rw [if_pos (by omega)] at hx
      subst hx
      refine TC.exit ?_
      refine TE.thenExit ?_
      refine TE.thenExit ?_
      refine TE.inHere ?_
      refine TE.next ?_
      refine TC.seq ?_
      refine TC.region ?_
      refine' TL.y rfl rfl rfl ?hy61 ?_
      case hy61 => exact Yl.move rfl rfl
      refine' TL.y rfl rfl rfl ?hy62 ?_
      case hy62 => exact Yl.move rfl rfl
      refine' TL.y rfl rfl rfl ?hy63 ?_
      case hy63 => exact Yl.move rfl rfl
      refine' TL.c rfl rfl rfl ?hy64 ?_
      case hy64 => exact Yc.call rfl Try.func20 (by kernel_rfl) rfl rfl (Hp.turnB mem0 foc0 (fun w h => n_came at_ i res f0 (by omega) (by omega) (by omega) 0 (by unfold f0; rfl) (by decide) (by decide) w h))
      intro _
      refine' TL.y rfl rfl rfl ?hy65 ?_
      case hy65 => exact Yl.assign rfl rfl
      refine TL.nil ?_
      refine TE.next ?_
      refine TC.seq ?_
      refine TC.region ?_
      refine' TL.y rfl rfl rfl ?hy66 ?_
      case hy66 => exact Yl.move rfl rfl
      refine' TL.c rfl rfl rfl ?hy67 ?_
      case hy67 => exact Yc.call rfl Try.func23 (by kernel_rfl) rfl rfl (Hp.readB mem0 (fun w h => n_back (if i - at_ ≤ res then 1 else 0) (by split <;> first | exact up7 _ _ | (unfold f0; rfl)) w h))
      intro _
      refine' TL.y rfl rfl rfl ?hy68 ?_
      case hy68 => exact Yl.assign rfl rfl
      refine TL.nil ?_
      refine TE.next ?_
      refine TC.seq ?_
      refine TC.region ?_
      refine' TL.y rfl rfl rfl ?hy69 ?_
      case hy69 => exact Yl.move rfl rfl
      refine' TL.y rfl rfl rfl ?hy70 ?_
      case hy70 => exact Yl.move rfl rfl
      refine' TL.y rfl rfl rfl ?hy71 ?_
      case hy71 => exact Yl.move rfl rfl
      refine' TL.y rfl rfl rfl ?hy72 ?_
      case hy72 => exact Yl.move rfl rfl
      refine' TL.y rfl rfl rfl ?hy73 ?_
      case hy73 => first | (refine Yl.val (Yl.bin rfl rfl rfl (Bin.add _ _ _ _)) (congrArg (Value.int .i64) (i64in ?_ ?_)) <;> omega) | exact Yl.bin rfl rfl rfl (Bin.add _ _ _ _)
      refine' TL.c rfl rfl rfl ?hy74 ?_
      case hy74 => exact Yc.call rfl Try.func20 (by kernel_rfl) rfl rfl (Hp.turnB mem0 foc0 (fun w h => n_came at_ i (res + more) _ (by omega) (by omega) (by omega) (if i - at_ ≤ res then 1 else 0) (by split <;> first | exact up7 _ _ | (unfold f0; rfl)) (by split <;> omega) (by split <;> omega) w h))
      intro _
      refine' TL.y rfl rfl rfl ?hy75 ?_
      case hy75 => exact Yl.assign rfl rfl
      refine TL.nil ?_
      refine TE.next ?_
      refine TC.seq ?_
      refine TC.region ?_
      refine' TL.y rfl rfl rfl ?hy76 ?_
      case hy76 => exact Yl.assign rfl rfl
      refine TL.nil ?_
      refine TE.next ?_
      refine TC.seq ?_
      refine TC.seq ?_
      refine TC.region ?_
      refine' TL.y rfl rfl rfl ?hy77 ?_
      case hy77 => exact Yl.move rfl rfl
      refine TL.nil ?_
      refine TE.next ?_
      refine TC.cond rfl (fun hs77 => ?_) (fun hs77 => ?_)
      · skip
        have hq : i - at_ ≤ res := of_decide_eq_true hs77
        have hz : (i - at_ ≤ res) = True := eq_true hq
        refine TC.region ?_
        refine' TL.y rfl rfl rfl ?hy78 ?_
        case hy78 => exact Yl.assign rfl rfl
        refine TL.nil ?_
        refine TE.next ?_
        refine TC.seq ?_
        refine TC.region ?_
        refine' TL.y rfl rfl rfl ?hy79 ?_
        case hy79 => exact Yl.move rfl rfl
        refine' TL.y rfl rfl rfl ?hy80 ?_
        case hy80 => exact Yl.move rfl rfl
        refine' TL.y rfl rfl rfl ?hy81 ?_
        case hy81 => exact Yl.move rfl rfl
        refine' TL.y rfl rfl rfl ?hy82 ?_
        case hy82 => exact Yl.move rfl rfl
        refine' TL.y rfl rfl rfl ?hy83 ?_
        case hy83 => exact Yl.move rfl rfl
        refine' TL.y rfl rfl rfl ?hy84 ?_
        case hy84 => first | (refine Yl.val (Yl.bin rfl rfl rfl (Bin.sub _ _ _ _)) (congrArg (Value.int .i64) (i64in ?_ ?_)) <;> omega) | exact Yl.bin rfl rfl rfl (Bin.sub _ _ _ _)
        refine' TL.y rfl rfl rfl ?hy85 ?_
        case hy85 => exact Yl.move rfl rfl
        refine' TL.y rfl rfl rfl ?hy86 ?_
        case hy86 => exact Yl.bin rfl rfl rfl (Bin.leq _ _ _ _)
        refine' TL.y rfl rfl rfl ?hy87 ?_
        case hy87 => exact Yl.bin rfl rfl rfl (Bin.eqlB _ _ _ (by kernel_rfl))
        refine' TL.y rfl rfl rfl ?hy88 ?_
        case hy88 => exact Yl.pickT rfl rfl rfl
        refine' TL.y rfl rfl rfl ?hy89 ?_
        case hy89 => exact Yl.move rfl rfl
        refine TL.re (i := 88) (v' := .bool true) rfl (congrArg Value.bool (by first | (simp [hz]; done) | (simp [hz]; omega))) ?_
        refine' TL.y rfl rfl rfl ?hy90 ?_
        case hy90 => exact Yl.move rfl rfl
        refine' TL.y rfl rfl rfl ?hy91 ?_
        case hy91 => exact Yl.move rfl rfl
        refine' TL.y rfl rfl rfl ?hy92 ?_
        case hy92 => exact Yl.bin rfl rfl rfl (Bin.eql _ _ _ _)
        refine' TL.y rfl rfl rfl ?hy93 ?_
        case hy93 => exact Yl.pickT rfl rfl rfl
        refine' TL.y rfl rfl rfl ?hy94 ?_
        case hy94 => exact Yl.move rfl rfl
        refine TL.re (i := 93) (v' := .bool true) rfl (congrArg Value.bool (by first | (simp [hz]; done) | (simp [hz]; omega))) ?_
        refine' TL.y rfl rfl rfl ?hy95 ?_
        case hy95 => exact Yl.move rfl rfl
        refine' TL.y rfl rfl rfl ?hy96 ?_
        case hy96 => exact Yl.not rfl rfl
        refine' TL.y rfl rfl rfl ?hy97 ?_
        case hy97 => exact Yl.move rfl rfl
        refine TL.re (i := 96) (v' := .bool false) rfl (congrArg Value.bool (by simp [hz])) ?_
        refine' TL.y rfl rfl rfl ?hy98 ?_
        case hy98 => exact Yl.move rfl rfl
        refine' TL.y rfl rfl rfl ?hy99 ?_
        case hy99 => exact Yl.pickF rfl rfl rfl
        refine' TL.y rfl rfl rfl ?hy100 ?_
        case hy100 => exact Yl.pickT rfl rfl rfl
        refine' TL.y rfl rfl rfl ?hy101 ?_
        case hy101 => exact Yl.move rfl rfl
        refine TL.re (i := 100) (v' := .bool true) rfl (congrArg Value.bool (by first | (simp [hz]; done) | (simp [hz]; omega))) ?_
        refine' TL.y rfl rfl rfl ?hy102 ?_
        case hy102 => exact Yl.move rfl rfl
        refine' TL.y rfl rfl rfl ?hy103 ?_
        case hy103 => exact Yl.move rfl rfl
        refine' TL.y rfl rfl rfl ?hy104 ?_
        case hy104 => exact Yl.move rfl rfl
        refine' TL.y rfl rfl rfl ?hy105 ?_
        case hy105 => first | (refine Yl.val (Yl.bin rfl rfl rfl (Bin.sub _ _ _ _)) (congrArg (Value.int .i64) (i64in ?_ ?_)) <;> omega) | exact Yl.bin rfl rfl rfl (Bin.sub _ _ _ _)
        refine' TL.y rfl rfl rfl ?hy106 ?_
        case hy106 => exact Yl.move rfl rfl
        refine' TL.y rfl rfl rfl ?hy107 ?_
        case hy107 => exact Yl.move rfl rfl
        refine' TL.y rfl rfl rfl ?hy108 ?_
        case hy108 => first | (refine Yl.val (Yl.bin rfl rfl rfl (Bin.add _ _ _ _)) (congrArg (Value.int .i64) (i64in ?_ ?_)) <;> omega) | exact Yl.bin rfl rfl rfl (Bin.add _ _ _ _)
        refine' TL.y rfl rfl rfl ?hy109 ?_
        case hy109 => exact Yl.bin rfl rfl rfl (Bin.leq _ _ _ _)
        refine' TL.y rfl rfl rfl ?hy110 ?_
        case hy110 => exact Yl.bin rfl rfl rfl (Bin.eqlB _ _ _ (by kernel_rfl))
        refine' TL.y rfl rfl rfl ?hy111 ?_
        case hy111 => exact Yl.pickT rfl rfl rfl
        refine' TL.y rfl rfl rfl ?hy112 ?_
        case hy112 => exact Yl.assign rfl rfl
        refine TL.nil ?_
        refine TE.next ?_
        refine TC.ret ?_
        refine TE.ret1 rfl rfl ?_
        exact fun w h => ⟨by first | rfl | (simp; done) | (simp; omega), h.below⟩
      · skip
        have hq : ¬ i - at_ ≤ res := of_decide_eq_false hs77
        have hz : (i - at_ ≤ res) = False := eq_false hq
        refine TC.skip ?_
        refine TE.next ?_
        refine TC.seq ?_
        refine TC.region ?_
        refine' TL.y rfl rfl rfl ?hy113 ?_
        case hy113 => exact Yl.move rfl rfl
        refine' TL.y rfl rfl rfl ?hy114 ?_
        case hy114 => exact Yl.move rfl rfl
        refine' TL.y rfl rfl rfl ?hy115 ?_
        case hy115 => exact Yl.move rfl rfl
        refine' TL.y rfl rfl rfl ?hy116 ?_
        case hy116 => exact Yl.move rfl rfl
        refine' TL.y rfl rfl rfl ?hy117 ?_
        case hy117 => exact Yl.move rfl rfl
        refine' TL.y rfl rfl rfl ?hy118 ?_
        case hy118 => first | (refine Yl.val (Yl.bin rfl rfl rfl (Bin.sub _ _ _ _)) (congrArg (Value.int .i64) (i64in ?_ ?_)) <;> omega) | exact Yl.bin rfl rfl rfl (Bin.sub _ _ _ _)
        refine' TL.y rfl rfl rfl ?hy119 ?_
        case hy119 => exact Yl.move rfl rfl
        refine' TL.y rfl rfl rfl ?hy120 ?_
        case hy120 => exact Yl.bin rfl rfl rfl (Bin.leq _ _ _ _)
        refine' TL.y rfl rfl rfl ?hy121 ?_
        case hy121 => exact Yl.bin rfl rfl rfl (Bin.eqlB _ _ _ (by kernel_rfl))
        refine' TL.y rfl rfl rfl ?hy122 ?_
        case hy122 => exact Yl.pickT rfl rfl rfl
        refine' TL.y rfl rfl rfl ?hy123 ?_
        case hy123 => exact Yl.move rfl rfl
        refine TL.re (i := 88) (v' := .bool true) rfl (congrArg Value.bool (by first | (simp [hz]; done) | (simp [hz]; omega))) ?_
        refine' TL.y rfl rfl rfl ?hy124 ?_
        case hy124 => exact Yl.move rfl rfl
        refine' TL.y rfl rfl rfl ?hy125 ?_
        case hy125 => exact Yl.move rfl rfl
        refine' TL.y rfl rfl rfl ?hy126 ?_
        case hy126 => exact Yl.bin rfl rfl rfl (Bin.eql _ _ _ _)
        refine' TL.y rfl rfl rfl ?hy127 ?_
        case hy127 => exact Yl.pickT rfl rfl rfl
        refine' TL.y rfl rfl rfl ?hy128 ?_
        case hy128 => exact Yl.move rfl rfl
        refine TL.re (i := 93) (v' := .bool true) rfl (congrArg Value.bool (by first | (simp [hz]; done) | (simp [hz]; omega))) ?_
        refine' TL.y rfl rfl rfl ?hy129 ?_
        case hy129 => exact Yl.move rfl rfl
        refine' TL.y rfl rfl rfl ?hy130 ?_
        case hy130 => exact Yl.not rfl rfl
        refine' TL.y rfl rfl rfl ?hy131 ?_
        case hy131 => exact Yl.move rfl rfl
        refine TL.re (i := 96) (v' := .bool true) rfl (congrArg Value.bool (by simp [hz])) ?_
        refine TL.skip rfl rfl rfl ?_
        refine' TL.y rfl rfl rfl ?hy132 ?_
        case hy132 => exact Yl.pickT rfl rfl rfl
        refine' TL.y rfl rfl rfl ?hy133 ?_
        case hy133 => exact Yl.pickT rfl rfl rfl
        refine' TL.y rfl rfl rfl ?hy134 ?_
        case hy134 => exact Yl.move rfl rfl
        refine' TL.y rfl rfl rfl ?hy135 ?_
        case hy135 => exact Yl.move rfl rfl
        refine' TL.y rfl rfl rfl ?hy136 ?_
        case hy136 => exact Yl.move rfl rfl
        refine' TL.y rfl rfl rfl ?hy137 ?_
        case hy137 => exact Yl.move rfl rfl
        refine' TL.y rfl rfl rfl ?hy138 ?_
        case hy138 => first | (refine Yl.val (Yl.bin rfl rfl rfl (Bin.sub _ _ _ _)) (congrArg (Value.int .i64) (i64in ?_ ?_)) <;> omega) | exact Yl.bin rfl rfl rfl (Bin.sub _ _ _ _)
        refine' TL.y rfl rfl rfl ?hy139 ?_
        case hy139 => exact Yl.move rfl rfl
        refine' TL.y rfl rfl rfl ?hy140 ?_
        case hy140 => exact Yl.move rfl rfl
        refine' TL.y rfl rfl rfl ?hy141 ?_
        case hy141 => first | (refine Yl.val (Yl.bin rfl rfl rfl (Bin.add _ _ _ _)) (congrArg (Value.int .i64) (i64in ?_ ?_)) <;> omega) | exact Yl.bin rfl rfl rfl (Bin.add _ _ _ _)
        refine' TL.y rfl rfl rfl ?hy142 ?_
        case hy142 => exact Yl.bin rfl rfl rfl (Bin.leq _ _ _ _)
        refine' TL.y rfl rfl rfl ?hy143 ?_
        case hy143 => exact Yl.bin rfl rfl rfl (Bin.eqlB _ _ _ (by kernel_rfl))
        refine' TL.y rfl rfl rfl ?hy144 ?_
        case hy144 => exact Yl.pickT rfl rfl rfl
        refine' TL.y rfl rfl rfl ?hy145 ?_
        case hy145 => exact Yl.assign rfl rfl
        refine TL.nil ?_
        refine TE.next ?_
        refine TC.ret ?_
        refine TE.ret1 rfl rfl ?_
        exact fun w h => ⟨by first | rfl | (simp; done) | (simp; omega), h.below⟩
theorem near_all (n at_ res more : Int) (W : World) : Calls Try.prog 7 #[.int .i64 n, .int .i64 at_, .int .i64 res, .int .i64 more] W fun e w' => e = .returned (.bool true) ∧ Below W.heap.size W w' := by
  by_cases h0 : n < 1
  · exact near_out0 n at_ res more h0 W
  by_cases h1 : 60 < n
  · exact near_out1 n at_ res more h0 h1 W
  by_cases h2 : at_ < 0
  · exact near_out2 n at_ res more h0 h1 h2 W
  by_cases h3 : n ≤ at_
  · exact near_out3 n at_ res more h0 h1 h2 h3 W
  by_cases h4 : res < 0
  · exact near_out4 n at_ res more h0 h1 h2 h3 h4 W
  by_cases h5 : 1000 < res
  · exact near_out5 n at_ res more h0 h1 h2 h3 h4 h5 W
  by_cases h6 : more < 0
  · exact near_out6 n at_ res more h0 h1 h2 h3 h4 h5 h6 W
  by_cases h7 : 1000 < more
  · exact near_out7 n at_ res more h0 h1 h2 h3 h4 h5 h6 h7 W
  exact near_good n at_ res more h0 h1 h2 h3 h4 h5 h6 h7 W
end Go.Proofs.Ytpkpipkjmlhfaaa.Pure
