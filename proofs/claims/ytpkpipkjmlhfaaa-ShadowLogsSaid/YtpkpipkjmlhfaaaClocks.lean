/- The walk through ShadowClocks. -/
import Derived.Test.YtpkpipkjmlhfaaaWorks
import Derived.Test.YtpkpipkjmlhfaaaHL
import Derived.RowKit3
namespace Go.Proofs.Ytpkpipkjmlhfaaa.Pure
open Go.RowKit Go.Proofs.Ytpkpipkjmlhfaaa.A Go.Proofs.Ytpkpipkjmlhfaaa.Ev Go.Proofs.YtpkpipkjmlhfaaaW.PrintWords Go.Proofs.YtpkpipkjmlhfaaaW.PrintLast Go.Proofs.YtpkpipkjmlhfaaaW.PrintMore
set_option linter.unusedVariables false
set_option linter.unusedSimpArgs false
open Go.Proofs.Ytpkpipkjmlhfaaa.HL
/-- What goes of group g: its word, and the clocks behind it. -/
def wentV (f : Nat → Int) (g : Int) : Int := if 0 ≤ g ∧ g < 64 then mk g (f g.toNat) else 0
def wentF (f : Nat → Int) (g : Int) : Nat → Int := if 0 ≤ g ∧ g < 64 then A.up f g.toNat (f g.toNat + 1) else f
theorem q_went {b : Nat} (f h : Nat → Int) (g : Int) (hb : 0 ≤ g → g < 64 → 0 ≤ f g.toNat ∧ f g.toNat < 1000) (W : World) (H : LogAt W b f h) : Calls Try.prog 18 #[.pointer (some ⟨b, 0, none⟩), .int .i64 g] W fun e w' => e = .returned (.int .u64 (wentV f g)) ∧ LogAt w' b (wentF f g) h ∧ Chg W w' (· = b) := by
  unfold wentV wentF
  by_cases hg : 0 ≤ g ∧ g < 64
  · rw [if_pos hg, if_pos hg]
    have hx := hb hg.1 hg.2
    have := went_in (b := b) (f := f) (h := h) g hg.1 hg.2 (mk g (f g.toNat)) (k_make g _ (by omega)) W H
    rw [show wrap64 (f g.toNat + 1) = f g.toNat + 1 by unfold wrap64; omega] at this
    exact this
  · rw [if_neg hg, if_neg hg]
    exact (went_out g hg W).mono fun e w' ⟨e1, hb⟩ => ⟨e1, (hb.block b (blk_lt H)).trans H, Chg.of_below hb⟩
theorem q_clock {b : Nat} (f h : Nat → Int) (g : Int) (W : World) (H : LogAt W b f h) : Calls Try.prog 22 #[.pointer (some ⟨b, 0, none⟩), .int .i64 g] W fun e w' => e = .returned (.int .i64 (if 0 ≤ g ∧ g < 64 then f g.toNat else 0)) ∧ Below W.heap.size W w' := by
  by_cases hg : 0 ≤ g ∧ g < 64
  · rw [if_pos hg]; exact clock_in g hg.1 hg.2 W H
  · rw [if_neg hg]; exact clock_out g hg W
theorem q_look (g c : Int) (hg : 0 ≤ g ∧ g < 256) (hc : 0 ≤ c ∧ c < 1000) (W : World) : Calls Try.prog 9 #[.int .u64 (mk g c)] W fun e w' => e = .returned (.tuple #[.int .i64 g, .int .i64 c, .bool true]) ∧ Below W.heap.size W w' := by
  have hm := mk_range g c
  have h := k_look (mk g c) hm.1 (by omega) W
  rw [look_mk g c hg (by omega)] at h; exact h
theorem q_dist (g c n : Int) (hg : 0 ≤ g ∧ g < 256) (hc : 0 ≤ c ∧ c ≤ n) (hn : n < 1000) (W : World) : Calls Try.prog 14 #[.int .u64 (mk g c), .int .i64 n] W fun e w' => e = .returned (.int .i64 (n - c)) ∧ Below W.heap.size W w' := by
  have hm := mk_range g c
  have h := k_dist (mk g c) n hm.1 (by omega) (by omega) W
  rw [dist_mk g c n hg (by omega) (by omega), show (n - c) % 1099511627776 = n - c by omega] at h
  exact h
/-- How many of the first i went of each group. -/
def cnt (l : List Int) : Nat → Nat → Int
  | 0, _ => 0
  | i + 1, k => wentF (cnt l i) (l.getD i 0) k
theorem cnt_zero (l : List Int) : cnt l 0 = f0 := by funext k; rfl
theorem cnt_succ (l : List Int) (i : Nat) : cnt l (i + 1) = wentF (cnt l i) (l.getD i 0) := by funext k; rfl
theorem cnt_bd (l : List Int) : ∀ i k, 0 ≤ cnt l i k ∧ cnt l i k ≤ i
  | 0, k => by simp [cnt]
  | i + 1, k => by
    have h1 := cnt_bd l i k
    unfold cnt wentF
    split
    · unfold A.up
      split
      · rename_i h; subst h; omega
      · omega
    · omega
/-- All that went of one group. -/
def mades (g : Int) (m : Int) : List Value := (List.range m.toNat).map fun (c : Nat) => Value.int .u64 (mk g (c : Int))
theorem mades_len (g m : Int) : (mades g m).length = m.toNat := by simp [mades]
theorem mades_get (g m : Int) (j : Nat) (h : j < m.toNat) : (mades g m)[j]? = some (.int .u64 (mk g (j : Int))) := by
  simp [mades, h]
theorem mades_snoc (g m : Int) (h : 0 ≤ m) : mades g m ++ [.int .u64 (mk g m)] = mades g (m + 1) := by
  unfold mades
  rw [show (m + 1).toNat = m.toNat + 1 by omega, List.range_succ, List.map_append]
  simp [Int.toNat_of_nonneg h]
attribute [local irreducible] logC f0 A.up mk lookS distS nearS mades cnt wentV wentF
set_option maxRecDepth 100000 in
set_option maxHeartbeats 2000000 in
theorem clocks_out0 (W : World) (l : List Int) (A : Option Addr) (cp : Nat) (hS : Sl W A (l.map (Value.int .i64))) (g : Int)  (h0 : (100 < (l.length : Int))) : Calls Try.prog 6 #[.slice A l.length cp, .int .i64 g] W fun e w' => e = .returned (.bool true) ∧ Below W.heap.size W w' := by
  have hM : Hp W (fun _ => False) [] W := Hp.start
  refine TC.enter (n := 101) Try.func6 rfl rfl rfl hM ?_
  refine TC.seq ?_
  refine TC.region ?_
  refine' TL.y rfl rfl rfl ?hy1 ?_
  case hy1 => exact Yl.assign rfl rfl
  refine TL.nil ?_
  refine TE.next ?_
  refine TC.seq ?_
  refine TC.region ?_
  refine' TL.c rfl rfl rfl ?hy2 ?_
  case hy2 => exact Yc.call rfl Try.func8 (by kernel_rfl) rfl rfl (Hp.calls (fun w h => works_walk w))
  intro _
  refine' TL.y rfl rfl rfl ?hy3 ?_
  case hy3 => exact Yl.assign rfl rfl
  refine TL.nil ?_
  refine TE.next ?_
  refine TC.seq ?_
  refine TC.seq ?_
  refine TC.region ?_
  refine' TL.y rfl rfl rfl ?hy4 ?_
  case hy4 => exact Yl.move rfl rfl
  refine' TL.y rfl rfl rfl ?hy5 ?_
  case hy5 => exact Yl.not rfl rfl
  refine TL.nil ?_
  refine TE.next ?_
  refine TC.no rfl rfl ?_
  refine TC.skip ?_
  refine TE.next ?_
  refine TC.seq ?_
  refine TC.seq ?_
  refine TC.region ?_
  refine' TL.y rfl rfl rfl ?hy6 ?_
  case hy6 => exact Yl.move rfl rfl
  refine' TL.y rfl rfl rfl ?hy7 ?_
  case hy7 => exact Yl.len rfl rfl Try.underlying40
  refine' TL.y rfl rfl rfl ?hy8 ?_
  case hy8 => exact Yl.bin rfl rfl rfl (Bin.gtr _ _ _ _)
  refine' TL.y rfl rfl rfl ?hy9 ?_
  case hy9 => exact Yl.move rfl rfl
  refine TL.re (i := 20) (v' := .bool true) rfl (congrArg Value.bool (by first | (simp; done) | (simp; omega))) ?_
  refine TL.skip rfl rfl rfl ?_
  refine TL.skip rfl rfl rfl ?_
  refine' TL.y rfl rfl rfl ?hy10 ?_
  case hy10 => exact Yl.pickT rfl rfl rfl
  refine' TL.y rfl rfl rfl ?hy11 ?_
  case hy11 => exact Yl.move rfl rfl
  refine TL.skip rfl rfl rfl ?_
  refine TL.skip rfl rfl rfl ?_
  refine' TL.y rfl rfl rfl ?hy12 ?_
  case hy12 => exact Yl.pickT rfl rfl rfl
  refine TL.nil ?_
  refine TE.next ?_
  refine TC.yes rfl rfl ?_
  refine TC.seq ?_
  refine TC.region ?_
  refine' TL.y rfl rfl rfl ?hy13 ?_
  case hy13 => exact Yl.move rfl rfl
  refine' TL.y rfl rfl rfl ?hy14 ?_
  case hy14 => exact Yl.assign rfl rfl
  refine TL.nil ?_
  refine TE.next ?_
  refine TC.ret ?_
  refine TE.thenRet ?_
  refine TE.ret1 rfl rfl ?_
  exact fun w h => ⟨by first | rfl | (simp; done) | (simp; omega), h.below⟩
set_option maxRecDepth 100000 in
set_option maxHeartbeats 2000000 in
theorem clocks_out1 (W : World) (l : List Int) (A : Option Addr) (cp : Nat) (hS : Sl W A (l.map (Value.int .i64))) (g : Int) (h0 : ¬ (100 < (l.length : Int))) (h1 : (g < 0)) : Calls Try.prog 6 #[.slice A l.length cp, .int .i64 g] W fun e w' => e = .returned (.bool true) ∧ Below W.heap.size W w' := by
  have hM : Hp W (fun _ => False) [] W := Hp.start
  refine TC.enter (n := 101) Try.func6 rfl rfl rfl hM ?_
  refine TC.seq ?_
  refine TC.region ?_
  refine' TL.y rfl rfl rfl ?hy1 ?_
  case hy1 => exact Yl.assign rfl rfl
  refine TL.nil ?_
  refine TE.next ?_
  refine TC.seq ?_
  refine TC.region ?_
  refine' TL.c rfl rfl rfl ?hy2 ?_
  case hy2 => exact Yc.call rfl Try.func8 (by kernel_rfl) rfl rfl (Hp.calls (fun w h => works_walk w))
  intro _
  refine' TL.y rfl rfl rfl ?hy3 ?_
  case hy3 => exact Yl.assign rfl rfl
  refine TL.nil ?_
  refine TE.next ?_
  refine TC.seq ?_
  refine TC.seq ?_
  refine TC.region ?_
  refine' TL.y rfl rfl rfl ?hy4 ?_
  case hy4 => exact Yl.move rfl rfl
  refine' TL.y rfl rfl rfl ?hy5 ?_
  case hy5 => exact Yl.not rfl rfl
  refine TL.nil ?_
  refine TE.next ?_
  refine TC.no rfl rfl ?_
  refine TC.skip ?_
  refine TE.next ?_
  refine TC.seq ?_
  refine TC.seq ?_
  refine TC.region ?_
  refine' TL.y rfl rfl rfl ?hy6 ?_
  case hy6 => exact Yl.move rfl rfl
  refine' TL.y rfl rfl rfl ?hy7 ?_
  case hy7 => exact Yl.len rfl rfl Try.underlying40
  refine' TL.y rfl rfl rfl ?hy8 ?_
  case hy8 => exact Yl.bin rfl rfl rfl (Bin.gtr _ _ _ _)
  refine' TL.y rfl rfl rfl ?hy9 ?_
  case hy9 => exact Yl.move rfl rfl
  refine TL.re (i := 20) (v' := .bool false) rfl (congrArg Value.bool (by first | (simp; done) | (simp; omega))) ?_
  refine' TL.y rfl rfl rfl ?hy10 ?_
  case hy10 => exact Yl.move rfl rfl
  refine' TL.y rfl rfl rfl ?hy11 ?_
  case hy11 => exact Yl.bin rfl rfl rfl (Bin.lss _ _ _ _)
  refine' TL.y rfl rfl rfl ?hy12 ?_
  case hy12 => exact Yl.pickF rfl rfl rfl
  refine' TL.y rfl rfl rfl ?hy13 ?_
  case hy13 => exact Yl.move rfl rfl
  refine TL.re (i := 24) (v' := .bool true) rfl (congrArg Value.bool (by first | (simp; done) | (simp; omega))) ?_
  refine TL.skip rfl rfl rfl ?_
  refine TL.skip rfl rfl rfl ?_
  refine' TL.y rfl rfl rfl ?hy14 ?_
  case hy14 => exact Yl.pickT rfl rfl rfl
  refine TL.nil ?_
  refine TE.next ?_
  refine TC.yes rfl rfl ?_
  refine TC.seq ?_
  refine TC.region ?_
  refine' TL.y rfl rfl rfl ?hy15 ?_
  case hy15 => exact Yl.move rfl rfl
  refine' TL.y rfl rfl rfl ?hy16 ?_
  case hy16 => exact Yl.assign rfl rfl
  refine TL.nil ?_
  refine TE.next ?_
  refine TC.ret ?_
  refine TE.thenRet ?_
  refine TE.ret1 rfl rfl ?_
  exact fun w h => ⟨by first | rfl | (simp; done) | (simp; omega), h.below⟩
set_option maxRecDepth 100000 in
set_option maxHeartbeats 2000000 in
theorem clocks_out2 (W : World) (l : List Int) (A : Option Addr) (cp : Nat) (hS : Sl W A (l.map (Value.int .i64))) (g : Int) (h0 : ¬ (100 < (l.length : Int))) (h1 : ¬ (g < 0)) (h2 : (63 < g)) : Calls Try.prog 6 #[.slice A l.length cp, .int .i64 g] W fun e w' => e = .returned (.bool true) ∧ Below W.heap.size W w' := by
  have hM : Hp W (fun _ => False) [] W := Hp.start
  refine TC.enter (n := 101) Try.func6 rfl rfl rfl hM ?_
  refine TC.seq ?_
  refine TC.region ?_
  refine' TL.y rfl rfl rfl ?hy1 ?_
  case hy1 => exact Yl.assign rfl rfl
  refine TL.nil ?_
  refine TE.next ?_
  refine TC.seq ?_
  refine TC.region ?_
  refine' TL.c rfl rfl rfl ?hy2 ?_
  case hy2 => exact Yc.call rfl Try.func8 (by kernel_rfl) rfl rfl (Hp.calls (fun w h => works_walk w))
  intro _
  refine' TL.y rfl rfl rfl ?hy3 ?_
  case hy3 => exact Yl.assign rfl rfl
  refine TL.nil ?_
  refine TE.next ?_
  refine TC.seq ?_
  refine TC.seq ?_
  refine TC.region ?_
  refine' TL.y rfl rfl rfl ?hy4 ?_
  case hy4 => exact Yl.move rfl rfl
  refine' TL.y rfl rfl rfl ?hy5 ?_
  case hy5 => exact Yl.not rfl rfl
  refine TL.nil ?_
  refine TE.next ?_
  refine TC.no rfl rfl ?_
  refine TC.skip ?_
  refine TE.next ?_
  refine TC.seq ?_
  refine TC.seq ?_
  refine TC.region ?_
  refine' TL.y rfl rfl rfl ?hy6 ?_
  case hy6 => exact Yl.move rfl rfl
  refine' TL.y rfl rfl rfl ?hy7 ?_
  case hy7 => exact Yl.len rfl rfl Try.underlying40
  refine' TL.y rfl rfl rfl ?hy8 ?_
  case hy8 => exact Yl.bin rfl rfl rfl (Bin.gtr _ _ _ _)
  refine' TL.y rfl rfl rfl ?hy9 ?_
  case hy9 => exact Yl.move rfl rfl
  refine TL.re (i := 20) (v' := .bool false) rfl (congrArg Value.bool (by first | (simp; done) | (simp; omega))) ?_
  refine' TL.y rfl rfl rfl ?hy10 ?_
  case hy10 => exact Yl.move rfl rfl
  refine' TL.y rfl rfl rfl ?hy11 ?_
  case hy11 => exact Yl.bin rfl rfl rfl (Bin.lss _ _ _ _)
  refine' TL.y rfl rfl rfl ?hy12 ?_
  case hy12 => exact Yl.pickF rfl rfl rfl
  refine' TL.y rfl rfl rfl ?hy13 ?_
  case hy13 => exact Yl.move rfl rfl
  refine TL.re (i := 24) (v' := .bool false) rfl (congrArg Value.bool (by first | (simp; done) | (simp; omega))) ?_
  refine' TL.y rfl rfl rfl ?hy14 ?_
  case hy14 => exact Yl.move rfl rfl
  refine' TL.y rfl rfl rfl ?hy15 ?_
  case hy15 => exact Yl.bin rfl rfl rfl (Bin.gtr _ _ _ _)
  refine' TL.y rfl rfl rfl ?hy16 ?_
  case hy16 => exact Yl.pickF rfl rfl rfl
  refine TL.nil ?_
  refine TE.next ?_
  refine TC.yes rfl (by first | (simp; done) | (simp; omega)) ?_
  refine TC.seq ?_
  refine TC.region ?_
  refine' TL.y rfl rfl rfl ?hy17 ?_
  case hy17 => exact Yl.move rfl rfl
  refine' TL.y rfl rfl rfl ?hy18 ?_
  case hy18 => exact Yl.assign rfl rfl
  refine TL.nil ?_
  refine TE.next ?_
  refine TC.ret ?_
  refine TE.thenRet ?_
  refine TE.ret1 rfl rfl ?_
  exact fun w h => ⟨by first | rfl | (simp; done) | (simp; omega), h.below⟩
set_option maxRecDepth 100000 in
set_option maxHeartbeats 2000000 in
theorem clocks_good (W : World) (l : List Int) (A : Option Addr) (cp : Nat) (hS : Sl W A (l.map (Value.int .i64))) (g : Int) (h0 : ¬ (100 < (l.length : Int))) (h1 : ¬ (g < 0)) (h2 : ¬ (63 < g)) : Calls Try.prog 6 #[.slice A l.length cp, .int .i64 g] W fun e w' => e = .returned (.bool true) ∧ Below W.heap.size W w' := by
  have hM : Hp W (fun _ => False) [] W := Hp.start
  refine TC.enter (n := 101) Try.func6 rfl rfl rfl hM ?_
  refine TC.seq ?_
  refine TC.region ?_
  refine' TL.y rfl rfl rfl ?hy1 ?_
  case hy1 => exact Yl.assign rfl rfl
  refine TL.nil ?_
  refine TE.next ?_
  refine TC.seq ?_
  refine TC.region ?_
  refine' TL.c rfl rfl rfl ?hy2 ?_
  case hy2 => exact Yc.call rfl Try.func8 (by kernel_rfl) rfl rfl (Hp.calls (fun w h => works_walk w))
  intro _
  refine' TL.y rfl rfl rfl ?hy3 ?_
  case hy3 => exact Yl.assign rfl rfl
  refine TL.nil ?_
  refine TE.next ?_
  refine TC.seq ?_
  refine TC.seq ?_
  refine TC.region ?_
  refine' TL.y rfl rfl rfl ?hy4 ?_
  case hy4 => exact Yl.move rfl rfl
  refine' TL.y rfl rfl rfl ?hy5 ?_
  case hy5 => exact Yl.not rfl rfl
  refine TL.nil ?_
  refine TE.next ?_
  refine TC.no rfl rfl ?_
  refine TC.skip ?_
  refine TE.next ?_
  refine TC.seq ?_
  refine TC.seq ?_
  refine TC.region ?_
  refine' TL.y rfl rfl rfl ?hy6 ?_
  case hy6 => exact Yl.move rfl rfl
  refine' TL.y rfl rfl rfl ?hy7 ?_
  case hy7 => exact Yl.len rfl rfl Try.underlying40
  refine' TL.y rfl rfl rfl ?hy8 ?_
  case hy8 => exact Yl.bin rfl rfl rfl (Bin.gtr _ _ _ _)
  refine' TL.y rfl rfl rfl ?hy9 ?_
  case hy9 => exact Yl.move rfl rfl
  refine TL.re (i := 20) (v' := .bool false) rfl (congrArg Value.bool (by first | (simp; done) | (simp; omega))) ?_
  refine' TL.y rfl rfl rfl ?hy10 ?_
  case hy10 => exact Yl.move rfl rfl
  refine' TL.y rfl rfl rfl ?hy11 ?_
  case hy11 => exact Yl.bin rfl rfl rfl (Bin.lss _ _ _ _)
  refine' TL.y rfl rfl rfl ?hy12 ?_
  case hy12 => exact Yl.pickF rfl rfl rfl
  refine' TL.y rfl rfl rfl ?hy13 ?_
  case hy13 => exact Yl.move rfl rfl
  refine TL.re (i := 24) (v' := .bool false) rfl (congrArg Value.bool (by first | (simp; done) | (simp; omega))) ?_
  refine' TL.y rfl rfl rfl ?hy14 ?_
  case hy14 => exact Yl.move rfl rfl
  refine' TL.y rfl rfl rfl ?hy15 ?_
  case hy15 => exact Yl.bin rfl rfl rfl (Bin.gtr _ _ _ _)
  refine' TL.y rfl rfl rfl ?hy16 ?_
  case hy16 => exact Yl.pickF rfl rfl rfl
  refine TL.nil ?_
  refine TE.next ?_
  refine TC.no rfl (by first | (simp; done) | (simp; omega)) ?_
  refine TC.skip ?_
  refine TE.next ?_
  refine TC.seq ?_
  refine TC.region ?_
  refine' TL.c rfl rfl rfl ?hy17 ?_
  case hy17 => exact Yc.call rfl Try.func16 (by kernel_rfl) rfl rfl (Hp.newB (fun w => w_new w))
  intro b6
  refine' TL.y rfl rfl rfl ?hy18 ?_
  case hy18 => exact Yl.assign rfl rfl
  refine TL.nil ?_
  refine TE.next ?_
  refine TC.seq ?_
  refine TC.region ?_
  refine' TL.y rfl rfl rfl ?hy19 ?_
  case hy19 => exact Yl.assign rfl rfl
  refine TL.nil ?_
  refine TE.next ?_
  refine TC.seq ?_
  refine TC.seq ?_
  refine TC.region ?_
  refine' TL.y rfl rfl rfl ?hy20 ?_
  case hy20 => exact Yl.assign rfl rfl
  refine TL.nil ?_
  refine TE.next ?_
  refine TC.block ?_
  refine TC.loop (σ := Nat × Value) (fun s => [(0, .slice A l.length cp), (1, .int .i64 g), (5, .bool true), (6, .pointer (some ⟨b6, 0, none⟩)), (7, s.2), (8, .int .i64 (s.1 : Int))]) (fun s => Hp W (fun _ => False) [ownR 22 1 s.2 (cnt l s.1 g.toNat).toNat (mades g (cnt l s.1 g.toNat)), blk b6 (.cells (logC (cnt l s.1) (f0)) 57 (0, 0))]) (fun s => s.1 ≤ l.length) (fun s => l.length - s.1) (0, .slice none 0 0) ?hF21 ?hs21 ?hm21 ?round21
  case hF21 => exact Nat.zero_le _
  case hs21 => exact ⟨rfl, rfl, rfl, rfl, rfl, rfl, trivial⟩
  case hm21 => exact fun w h => by have h2 := h.nil (e := 22) (size := 1); dsimp only; rw [show cnt l 0 = f0 from cnt_zero l, show (f0 g.toNat).toNat = 0 by unfold f0; rfl, show mades g (f0 g.toNat) = [] by unfold f0 mades; rfl]; exact h2
  case round21 =>
    rintro ⟨i, v⟩ hi
    dsimp only at hi ⊢
    refine TC.seq ?_
    refine TC.seq ?_
    refine TC.region ?_
    refine' TL.y rfl rfl rfl ?hy22 ?_
    case hy22 => exact Yl.move rfl rfl
    refine' TL.y rfl rfl rfl ?hy23 ?_
    case hy23 => exact Yl.move rfl rfl
    refine' TL.y rfl rfl rfl ?hy24 ?_
    case hy24 => exact Yl.len rfl rfl Try.underlying40
    refine' TL.y rfl rfl rfl ?hy25 ?_
    case hy25 => exact Yl.bin rfl rfl rfl (Bin.lss _ _ _ _)
    refine TL.nil ?_
    refine TE.next ?_
    refine TC.cond rfl (fun hs33 => ?_) (fun hs33 => ?_)
    · skip
      have hlt : i < l.length := by have := of_decide_eq_true hs33; omega
      obtain ⟨ad, rfl⟩ := hS.some (by simp; omega)
      have hx : (l.map (Value.int .i64))[i]? = some (.int .i64 (l.getD i 0)) := by simp [hlt]
      have hbd := cnt_bd l i
      have hcs : cnt l (i + 1) = wentF (cnt l i) (l.getD i 0) := cnt_succ l i
      refine TC.skip ?_
      refine TE.next ?_
      refine TC.seq ?_
      refine TC.block ?_
      refine TC.seq ?_
      refine TC.region ?_
      refine' TL.y rfl rfl rfl ?hy26 ?_
      case hy26 => exact Yl.move rfl rfl
      refine' TL.y rfl rfl rfl ?hy27 ?_
      case hy27 => exact Yl.move rfl rfl
      refine' TL.y rfl rfl rfl ?hy28 ?_
      case hy28 => exact Yl.move rfl rfl
      refine' TL.y rfl rfl rfl ?hy29 ?_
      case hy29 => exact Yl.idxS (k := 1) (ad' := ad.add i) rfl rfl rfl Try.underlying40 (by kernel_rfl) (by omega) (by omega) (by simp)
      refine' TL.y rfl rfl rfl ?hy30 ?_
      case hy30 => first | exact Yl.load rfl rfl (by kernel_rfl) ((Sl.cell hS hx (fun _ => id))) | exact Yl.load rfl rfl (by kernel_rfl) (Hp.ownCell mem0 hmj) | exact Yl.load rfl rfl (by kernel_rfl) (Hp.cell mem0 rfl) | exact Yl.load rfl rfl (by kernel_rfl) (Hp.cell mem1 rfl) | exact Yl.load rfl rfl (by kernel_rfl) (Hp.cell mem2 rfl) | exact Yl.load rfl rfl (by kernel_rfl) (Hp.cell mem3 rfl) | exact Yl.load rfl rfl (by kernel_rfl) (Hp.cell mem4 rfl) | exact Yl.load rfl rfl (by kernel_rfl) (Hp.cell mem5 rfl) | exact Yl.load rfl rfl (by kernel_rfl) (Hp.cell mem6 rfl) | exact Yl.load rfl rfl (by kernel_rfl) (Hp.cell mem7 rfl)
      refine' TL.c rfl rfl rfl ?hy31 ?_
      case hy31 => exact Yc.call rfl Try.func18 (by kernel_rfl) rfl rfl (Hp.turnB mem1 foc1 (fun w h => q_went (cnt l i) f0 (l.getD i 0) (fun _ _ => by have := hbd (l.getD i 0).toNat; omega) w h))
      intro _
      refine' TL.y rfl rfl rfl ?hy32 ?_
      case hy32 => exact Yl.assign rfl rfl
      refine TL.nil ?_
      refine TE.next ?_
      refine TC.seq ?_
      refine TC.region ?_
      refine' TL.y rfl rfl rfl ?hy33 ?_
      case hy33 => exact Yl.move rfl rfl
      refine' TL.y rfl rfl rfl ?hy34 ?_
      case hy34 => exact Yl.move rfl rfl
      refine' TL.y rfl rfl rfl ?hy35 ?_
      case hy35 => exact Yl.idxS (k := 1) (ad' := ad.add i) rfl rfl rfl Try.underlying40 (by kernel_rfl) (by omega) (by omega) (by simp)
      refine' TL.y rfl rfl rfl ?hy36 ?_
      case hy36 => first | exact Yl.load rfl rfl (by kernel_rfl) ((Sl.cell hS hx (fun _ => id))) | exact Yl.load rfl rfl (by kernel_rfl) (Hp.ownCell mem0 hmj) | exact Yl.load rfl rfl (by kernel_rfl) (Hp.cell mem0 rfl) | exact Yl.load rfl rfl (by kernel_rfl) (Hp.cell mem1 rfl) | exact Yl.load rfl rfl (by kernel_rfl) (Hp.cell mem2 rfl) | exact Yl.load rfl rfl (by kernel_rfl) (Hp.cell mem3 rfl) | exact Yl.load rfl rfl (by kernel_rfl) (Hp.cell mem4 rfl) | exact Yl.load rfl rfl (by kernel_rfl) (Hp.cell mem5 rfl) | exact Yl.load rfl rfl (by kernel_rfl) (Hp.cell mem6 rfl) | exact Yl.load rfl rfl (by kernel_rfl) (Hp.cell mem7 rfl)
      refine' TL.y rfl rfl rfl ?hy37 ?_
      case hy37 => exact Yl.move rfl rfl
      refine' TL.y rfl rfl rfl ?hy38 ?_
      case hy38 => exact Yl.bin rfl rfl rfl (Bin.eql _ _ _ _)
      refine TL.nil ?_
      refine TE.next ?_
      refine TC.cond rfl (fun hs47 => ?_) (fun hs47 => ?_)
      · skip
        have hge : g = l.getD i 0 := (eq_of_beq hs47).symm
        have hwv : wentV (cnt l i) (l.getD i 0) = mk g (cnt l i g.toNat) := by unfold wentV; rw [← hge, if_pos (by omega)]
        have hm1 : (cnt l i g.toNat).toNat + 1 = (cnt l i g.toNat + 1).toNat := by have := hbd g.toNat; omega
        have hce : wentF (cnt l i) (l.getD i 0) g.toNat = cnt l i g.toNat + 1 := by unfold wentF A.up; rw [← hge, if_pos (by omega), if_pos rfl]
        rw [hwv]
        refine TC.region ?_
        refine' TL.y rfl rfl rfl ?hy39 ?_
        case hy39 => exact Yl.move rfl rfl
        refine' TL.y rfl rfl rfl ?hy40 ?_
        case hy40 => exact Yl.move rfl rfl
        refine' TL.mx rfl rfl rfl ?hy41 ?_
        case hy41 => exact Ym.buildSlice (cells := #[_]) (z := .int .u64 0) (size := 1) #[.int .u64 0] rfl Try.underlying35 (by kernel_rfl) (by decide) (by decide) (by kernel_rfl) rfl rfl
        intro b50
        refine' TL.mx rfl rfl rfl ?hy42 ?_
        case hy42 => exact Ym.append (news := [.int .u64 (mk g (cnt l i g.toNat))]) rfl Try.underlying35 (by kernel_rfl) (z := .int .u64 0) (size := 1) (bytes := 8) rfl (by decide) (by decide) rfl rfl rfl (Hp.cells mem0 (fun j v hj => by simpa [Value.cells] using hj)) (by simp [Value.oneCell']) (by have := hbd g.toNat; omega) (fun v' => foc1)
        intro b51
        refine' TL.y rfl rfl rfl ?hy43 ?_
        case hy43 => exact Yl.assign rfl rfl
        refine TL.nil ?_
        refine TE.inNormal ?_
        refine TE.next ?_
        refine TC.region ?_
        refine' TL.y rfl rfl rfl ?hy44 ?_
        case hy44 => exact Yl.move rfl rfl
        refine' TL.y rfl rfl rfl ?hy45 ?_
        case hy45 => first | (refine Yl.val (Yl.bin rfl rfl rfl (Bin.add _ _ _ _)) (congrArg (Value.int .i64) (i64in ?_ ?_)) <;> omega) | exact Yl.bin rfl rfl rfl (Bin.add _ _ _ _)
        refine' TL.y rfl rfl rfl ?hy46 ?_
        case hy46 => exact Yl.assign rfl rfl
        refine TL.nil ?_
        refine TE.round (i + 1, b51) ?hF47 ?hlt47 ?hs47 ?hm47
        case hF47 => exact hlt
        case hlt47 => dsimp only; omega
        case hs47 => exact ⟨rfl, rfl, rfl, rfl, rfl, rfl, trivial⟩
        case hm47 => exact fun w h => by have h2 := h.sub (.cons _ (.refl _)); have hc := cnt_bd l i g.toNat; dsimp only; rw [hcs, hce]; rw [mades_snoc g _ hc.1, hm1] at h2; exact h2
      · skip
        have hge : g ≠ l.getD i 0 := Ne.symm (beq_eq_false_iff_ne.1 hs47)
        have hce : wentF (cnt l i) (l.getD i 0) g.toNat = cnt l i g.toNat := by unfold wentF A.up; (try dsimp only); split <;> first | rfl | exact if_neg (by omega)
        refine TC.skip ?_
        refine TE.inNormal ?_
        refine TE.next ?_
        refine TC.region ?_
        refine' TL.y rfl rfl rfl ?hy48 ?_
        case hy48 => exact Yl.move rfl rfl
        refine' TL.y rfl rfl rfl ?hy49 ?_
        case hy49 => first | (refine Yl.val (Yl.bin rfl rfl rfl (Bin.add _ _ _ _)) (congrArg (Value.int .i64) (i64in ?_ ?_)) <;> omega) | exact Yl.bin rfl rfl rfl (Bin.add _ _ _ _)
        refine' TL.y rfl rfl rfl ?hy50 ?_
        case hy50 => exact Yl.assign rfl rfl
        refine TL.nil ?_
        refine TE.round (i + 1, v) ?hF51 ?hlt51 ?hs51 ?hm51
        case hF51 => exact hlt
        case hlt51 => dsimp only; omega
        case hs51 => exact ⟨rfl, rfl, rfl, rfl, rfl, rfl, trivial⟩
        case hm51 => exact fun w h => by dsimp only; rw [hcs, hce]; exact h
    · skip
      have hnl : i = l.length := by have := of_decide_eq_false hs33; omega
      refine TC.exit ?_
      refine TE.thenExit ?_
      refine TE.thenExit ?_
      refine TE.inHere ?_
      refine TE.next ?_
      refine TC.seq ?_
      refine TC.seq ?_
      refine TC.region ?_
      refine' TL.y rfl rfl rfl ?hy52 ?_
      case hy52 => exact Yl.move rfl rfl
      refine' TL.y rfl rfl rfl ?hy53 ?_
      case hy53 => exact Yl.move rfl rfl
      refine' TL.c rfl rfl rfl ?hy54 ?_
      case hy54 => exact Yc.call rfl Try.func22 (by kernel_rfl) rfl rfl (Hp.readB mem1 (fun w h => q_clock (cnt l i) f0 g w h))
      intro _
      rw [if_pos (by omega : 0 ≤ g ∧ g < 64)]
      have hbd := cnt_bd l i g.toNat
      refine' TL.y rfl rfl rfl ?hy55 ?_
      case hy55 => exact Yl.move rfl rfl
      refine' TL.y rfl rfl rfl ?hy56 ?_
      case hy56 => exact Yl.lenR rfl rfl Try.underlying35 mem0
      refine' TL.y rfl rfl rfl ?hy57 ?_
      case hy57 => exact Yl.bin rfl rfl rfl (Bin.neq _ _ _ _)
      refine TL.nil ?_
      refine TE.next ?_
      refine TC.no rfl (by first | (simp; done) | (simp; omega)) ?_
      refine TC.skip ?_
      refine TE.next ?_
      refine TC.seq ?_
      refine TC.seq ?_
      refine TC.region ?_
      refine' TL.y rfl rfl rfl ?hy58 ?_
      case hy58 => exact Yl.assign rfl rfl
      refine TL.nil ?_
      refine TE.next ?_
      refine TC.block ?_
      refine TC.loop (σ := Nat) (fun j => [(0, .slice A l.length cp), (1, .int .i64 g), (5, .bool true), (6, .pointer (some ⟨b6, 0, none⟩)), (7, v), (10, .int .i64 (j : Int))]) (fun j => Hp W (fun _ => False) [ownR 22 1 v (cnt l i g.toNat).toNat (mades g (cnt l i g.toNat)), blk b6 (.cells (logC (cnt l i) (f0)) 57 (0, 0))]) (fun j => j ≤ (cnt l i g.toNat).toNat) (fun j => (cnt l i g.toNat).toNat - j) 0 ?hF59 ?hs59 ?hm59 ?round59
      case hF59 => exact Nat.zero_le _
      case hs59 => exact ⟨rfl, rfl, rfl, rfl, rfl, rfl, trivial⟩
      case hm59 => exact fun _ h => h
      case round59 =>
        intro j hj
        (try dsimp only at hj ⊢)
        refine TC.seq ?_
        refine TC.seq ?_
        refine TC.region ?_
        refine' TL.y rfl rfl rfl ?hy60 ?_
        case hy60 => exact Yl.move rfl rfl
        refine' TL.y rfl rfl rfl ?hy61 ?_
        case hy61 => exact Yl.move rfl rfl
        refine' TL.y rfl rfl rfl ?hy62 ?_
        case hy62 => exact Yl.lenR rfl rfl Try.underlying35 mem0
        refine' TL.y rfl rfl rfl ?hy63 ?_
        case hy63 => exact Yl.bin rfl rfl rfl (Bin.lss _ _ _ _)
        refine TL.nil ?_
        refine TE.next ?_
        refine TC.cond rfl (fun hs61 => ?_) (fun hs61 => ?_)
        · skip
          have hlj : j < (cnt l i g.toNat).toNat := by have := of_decide_eq_true hs61; omega
          refine TC.fact (Hp.ownSome mem0 (by omega)) ?_
          rintro ⟨gb, cap, rfl⟩
          have hmj := mades_get g _ j hlj
          refine TC.skip ?_
          refine TE.next ?_
          refine TC.seq ?_
          refine TC.block ?_
          refine TC.seq ?_
          refine TC.region ?_
          refine' TL.y rfl rfl rfl ?hy64 ?_
          case hy64 => exact Yl.move rfl rfl
          refine' TL.y rfl rfl rfl ?hy65 ?_
          case hy65 => exact Yl.move rfl rfl
          refine' TL.y rfl rfl rfl ?hy66 ?_
          case hy66 => exact Yl.idxS (k := 1) (ad' := ⟨gb, j, none⟩) rfl rfl rfl Try.underlying35 (by kernel_rfl) (by omega) (by omega) (by simp [Addr.at_])
          refine' TL.y rfl rfl rfl ?hy67 ?_
          case hy67 => first | exact Yl.load rfl rfl (by kernel_rfl) ((Sl.cell hS hx (fun _ => id))) | exact Yl.load rfl rfl (by kernel_rfl) (Hp.ownCell mem0 hmj) | exact Yl.load rfl rfl (by kernel_rfl) (Hp.cell mem0 rfl) | exact Yl.load rfl rfl (by kernel_rfl) (Hp.cell mem1 rfl) | exact Yl.load rfl rfl (by kernel_rfl) (Hp.cell mem2 rfl) | exact Yl.load rfl rfl (by kernel_rfl) (Hp.cell mem3 rfl) | exact Yl.load rfl rfl (by kernel_rfl) (Hp.cell mem4 rfl) | exact Yl.load rfl rfl (by kernel_rfl) (Hp.cell mem5 rfl) | exact Yl.load rfl rfl (by kernel_rfl) (Hp.cell mem6 rfl) | exact Yl.load rfl rfl (by kernel_rfl) (Hp.cell mem7 rfl)
          refine' TL.c rfl rfl rfl ?hy68 ?_
          case hy68 => exact Yc.call rfl Try.func9 (by kernel_rfl) rfl rfl (Hp.calls (fun w h => q_look g j (by omega) (by omega) w))
          intro _
          refine' TL.y rfl rfl rfl ?hy69 ?_
          case hy69 => exact Yl.move rfl rfl
          refine' TL.y rfl rfl rfl ?hy70 ?_
          case hy70 => exact Yl.extract rfl rfl rfl
          refine' TL.y rfl rfl rfl ?hy71 ?_
          case hy71 => exact Yl.extract rfl rfl rfl
          refine' TL.y rfl rfl rfl ?hy72 ?_
          case hy72 => exact Yl.extract rfl rfl rfl
          refine' TL.y rfl rfl rfl ?hy73 ?_
          case hy73 => exact Yl.assign rfl rfl
          refine' TL.y rfl rfl rfl ?hy74 ?_
          case hy74 => exact Yl.assign rfl rfl
          refine' TL.y rfl rfl rfl ?hy75 ?_
          case hy75 => exact Yl.assign rfl rfl
          refine TL.nil ?_
          refine TE.next ?_
          refine TC.seq ?_
          refine TC.draw (k := 27) _ [] #[false, false, false, false, false, false, false, false, false, false, false, false, false, false, false, false, false, false, false, false, false, false, false, false, false, false, false] (by kernel_rfl) rfl rfl (fun _ h => h.drew) (fun _ h => h) ?_
          refine' TA.y (i := 0) #[true, false, false, false, false, false, false, false, false, false, false, false, false, false, false, false, false, false, false, false, false, false, false, false, false, false, false] rfl rfl rfl (by kernel_rfl) (fun _ _ _ h => h) (fun _ h => h) rfl ?hy76 ?_
          case hy76 => exact Yl.move rfl rfl
          refine' TA.y (i := 1) #[true, true, false, false, false, false, false, false, false, false, false, false, false, false, false, false, false, false, false, false, false, false, false, false, false, false, false] rfl rfl rfl (by kernel_rfl) (fun _ _ _ h => h) (fun _ h => h) rfl ?hy77 ?_
          case hy77 => exact Yl.not rfl rfl
          refine' TA.y (i := 2) #[true, true, true, false, false, false, false, false, false, false, false, false, false, false, false, false, false, false, false, false, false, false, false, false, false, false, false] rfl rfl rfl (by kernel_rfl) (fun _ _ _ h => h) (fun _ h => h) rfl ?hy78 ?_
          case hy78 => exact Yl.move rfl rfl
          refine TA.re (i := 75) (v' := .bool false) rfl (congrArg Value.bool (by first | (simp; done) | (simp; omega))) ?_
          refine' TA.y (i := 3) #[true, true, true, true, false, false, false, false, false, false, false, false, false, false, false, false, false, false, false, false, false, false, false, false, false, false, false] rfl rfl rfl (by kernel_rfl) (fun _ _ _ h => h) (fun _ h => h) rfl ?hy79 ?_
          case hy79 => exact Yl.move rfl rfl
          refine' TA.y (i := 4) #[true, true, true, true, true, false, false, false, false, false, false, false, false, false, false, false, false, false, false, false, false, false, false, false, false, false, false] rfl rfl rfl (by kernel_rfl) (fun _ _ _ h => h) (fun _ h => h) rfl ?hy80 ?_
          case hy80 => exact Yl.move rfl rfl
          refine' TA.y (i := 5) #[true, true, true, true, true, true, false, false, false, false, false, false, false, false, false, false, false, false, false, false, false, false, false, false, false, false, false] rfl rfl rfl (by kernel_rfl) (fun _ _ _ h => h) (fun _ h => h) rfl ?hy81 ?_
          case hy81 => exact Yl.bin rfl rfl rfl (Bin.neq _ _ _ _)
          refine' TA.y (i := 6) #[true, true, true, true, true, true, true, false, false, false, false, false, false, false, false, false, false, false, false, false, false, false, false, false, false, false, false] rfl rfl rfl (by kernel_rfl) (fun _ _ _ h => h) (fun _ h => h) rfl ?hy82 ?_
          case hy82 => exact Yl.pickF rfl rfl rfl
          refine' TA.y (i := 7) #[true, true, true, true, true, true, true, true, false, false, false, false, false, false, false, false, false, false, false, false, false, false, false, false, false, false, false] rfl rfl rfl (by kernel_rfl) (fun _ _ _ h => h) (fun _ h => h) rfl ?hy83 ?_
          case hy83 => exact Yl.move rfl rfl
          refine TA.re (i := 80) (v' := .bool false) rfl (congrArg Value.bool (by first | (simp; done) | (simp; omega))) ?_
          refine' TA.y (i := 8) #[true, true, true, true, true, true, true, true, true, false, false, false, false, false, false, false, false, false, false, false, false, false, false, false, false, false, false] rfl rfl rfl (by kernel_rfl) (fun _ _ _ h => h) (fun _ h => h) rfl ?hy84 ?_
          case hy84 => exact Yl.move rfl rfl
          refine' TA.y (i := 9) #[true, true, true, true, true, true, true, true, true, true, false, false, false, false, false, false, false, false, false, false, false, false, false, false, false, false, false] rfl rfl rfl (by kernel_rfl) (fun _ _ _ h => h) (fun _ h => h) rfl ?hy85 ?_
          case hy85 => exact Yl.move rfl rfl
          refine' TA.y (i := 10) #[true, true, true, true, true, true, true, true, true, true, true, false, false, false, false, false, false, false, false, false, false, false, false, false, false, false, false] rfl rfl rfl (by kernel_rfl) (fun _ _ _ h => h) (fun _ h => h) rfl ?hy86 ?_
          case hy86 => exact Yl.bin rfl rfl rfl (Bin.neq _ _ _ _)
          refine' TA.y (i := 11) #[true, true, true, true, true, true, true, true, true, true, true, true, false, false, false, false, false, false, false, false, false, false, false, false, false, false, false] rfl rfl rfl (by kernel_rfl) (fun _ _ _ h => h) (fun _ h => h) rfl ?hy87 ?_
          case hy87 => exact Yl.pickF rfl rfl rfl
          refine' TA.y (i := 12) #[true, true, true, true, true, true, true, true, true, true, true, true, true, false, false, false, false, false, false, false, false, false, false, false, false, false, false] rfl rfl rfl (by kernel_rfl) (fun _ _ _ h => h) (fun _ h => h) rfl ?hy88 ?_
          case hy88 => exact Yl.move rfl rfl
          refine TA.re (i := 85) (v' := .bool false) rfl (congrArg Value.bool (by first | (simp; done) | (simp; omega))) ?_
          refine' TA.y (i := 13) #[true, true, true, true, true, true, true, true, true, true, true, true, true, true, false, false, false, false, false, false, false, false, false, false, false, false, false] rfl rfl rfl (by kernel_rfl) (fun _ _ _ h => h) (fun _ h => h) rfl ?hy89 ?_
          case hy89 => exact Yl.move rfl rfl
          refine' TA.y (i := 14) #[true, true, true, true, true, true, true, true, true, true, true, true, true, true, true, false, false, false, false, false, false, false, false, false, false, false, false] rfl rfl rfl (by kernel_rfl) (fun _ _ _ h => h) (fun _ h => h) rfl ?hy90 ?_
          case hy90 => exact Yl.move rfl rfl
          refine' TA.y (i := 15) #[true, true, true, true, true, true, true, true, true, true, true, true, true, true, true, true, false, false, false, false, false, false, false, false, false, false, false] rfl rfl rfl (by kernel_rfl) (fun _ _ _ h => h) (fun _ h => h) rfl ?hy91 ?_
          case hy91 => exact Yl.idxS (k := 1) (ad' := ⟨gb, j, none⟩) rfl rfl rfl Try.underlying35 (by kernel_rfl) (by omega) (by omega) (by simp [Addr.at_])
          refine' TA.y (i := 16) #[true, true, true, true, true, true, true, true, true, true, true, true, true, true, true, true, true, false, false, false, false, false, false, false, false, false, false] rfl rfl rfl (by kernel_rfl) (fun _ _ _ h => h) (fun _ h => h) rfl ?hy92 ?_
          case hy92 => first | exact Yl.load rfl rfl (by kernel_rfl) ((Sl.cell hS hx (fun _ => id))) | exact Yl.load rfl rfl (by kernel_rfl) (Hp.ownCell mem0 hmj) | exact Yl.load rfl rfl (by kernel_rfl) (Hp.cell mem0 rfl) | exact Yl.load rfl rfl (by kernel_rfl) (Hp.cell mem1 rfl) | exact Yl.load rfl rfl (by kernel_rfl) (Hp.cell mem2 rfl) | exact Yl.load rfl rfl (by kernel_rfl) (Hp.cell mem3 rfl) | exact Yl.load rfl rfl (by kernel_rfl) (Hp.cell mem4 rfl) | exact Yl.load rfl rfl (by kernel_rfl) (Hp.cell mem5 rfl) | exact Yl.load rfl rfl (by kernel_rfl) (Hp.cell mem6 rfl) | exact Yl.load rfl rfl (by kernel_rfl) (Hp.cell mem7 rfl)
          refine' TA.y (i := 17) #[true, true, true, true, true, true, true, true, true, true, true, true, true, true, true, true, true, true, false, false, false, false, false, false, false, false, false] rfl rfl rfl (by kernel_rfl) (fun _ _ _ h => h) (fun _ h => h) rfl ?hy93 ?_
          case hy93 => exact Yl.move rfl rfl
          refine' TA.y (i := 18) #[true, true, true, true, true, true, true, true, true, true, true, true, true, true, true, true, true, true, true, false, false, false, false, false, false, false, false] rfl rfl rfl (by kernel_rfl) (fun _ _ _ h => h) (fun _ h => h) rfl ?hy94 ?_
          case hy94 => exact Yl.move rfl rfl
          refine' TA.y (i := 21) #[true, true, true, true, true, true, true, true, true, true, true, true, true, true, true, true, true, true, true, false, false, true, false, false, false, false, false] rfl rfl rfl (by kernel_rfl) (fun _ _ _ h => h) (fun _ h => h) rfl ?hy95 ?_
          case hy95 => exact Yl.move rfl rfl
          refine' TA.y (i := 22) #[true, true, true, true, true, true, true, true, true, true, true, true, true, true, true, true, true, true, true, false, false, true, true, false, false, false, false] rfl rfl rfl (by kernel_rfl) (fun _ _ _ h => h) (fun _ h => h) rfl ?hy96 ?_
          case hy96 => exact Yl.lenR rfl rfl Try.underlying35 mem0
          refine' TA.y (i := 23) #[true, true, true, true, true, true, true, true, true, true, true, true, true, true, true, true, true, true, true, false, false, true, true, true, false, false, false] rfl rfl rfl (by kernel_rfl) (fun _ _ _ h => h) (fun _ h => h) rfl ?hy97 ?_
          case hy97 => exact Yl.move rfl rfl
          refine' TA.y (i := 24) #[true, true, true, true, true, true, true, true, true, true, true, true, true, true, true, true, true, true, true, false, false, true, true, true, true, false, false] rfl rfl rfl (by kernel_rfl) (fun _ _ _ h => h) (fun _ h => h) rfl ?hy98 ?_
          case hy98 => first | (refine Yl.val (Yl.bin rfl rfl rfl (Bin.sub _ _ _ _)) (congrArg (Value.int .i64) (i64in ?_ ?_)) <;> omega) | exact Yl.bin rfl rfl rfl (Bin.sub _ _ _ _)
          refine' TA.c (i := 19) #[true, true, true, true, true, true, true, true, true, true, true, true, true, true, true, true, true, true, true, true, false, true, true, true, true, false, false] rfl rfl rfl (by kernel_rfl) (by decide) rfl ?hy99 (fun _ _ h => h) ?_
          case hy99 => exact Yc.call rfl Try.func22 (by kernel_rfl) rfl rfl (Hp.readB mem1 (fun w h => q_clock (cnt l i) f0 g w h))
          intro _
          rw [if_pos (by omega : 0 ≤ g ∧ g < 64)]
          refine' TA.c (i := 20) #[true, true, true, true, true, true, true, true, true, true, true, true, true, true, true, true, true, true, true, true, true, true, true, true, true, false, false] rfl rfl rfl (by kernel_rfl) (by decide) rfl ?hy100 (fun _ _ h => h) ?_
          case hy100 => exact Yc.call rfl Try.func14 (by kernel_rfl) rfl rfl (Hp.calls (fun w h => q_dist g j (cnt l i g.toNat) (by omega) (by omega) (by omega) w))
          intro _
          refine' TA.y (i := 25) #[true, true, true, true, true, true, true, true, true, true, true, true, true, true, true, true, true, true, true, true, true, true, true, true, true, true, false] rfl rfl rfl (by kernel_rfl) (fun _ _ _ h => h) (fun _ h => h) rfl ?hy101 ?_
          case hy101 => exact Yl.bin rfl rfl rfl (Bin.neq _ _ _ _)
          refine' TA.y (i := 26) #[true, true, true, true, true, true, true, true, true, true, true, true, true, true, true, true, true, true, true, true, true, true, true, true, true, true, true] rfl rfl rfl (by kernel_rfl) (fun _ _ _ h => h) (fun _ h => h) rfl ?hy102 ?_
          case hy102 => exact Yl.pickF rfl rfl rfl
          refine TA.done (by kernel_rfl) ?_
          refine TE.next ?_
          refine TC.no rfl (by first | (simp; done) | (simp; omega)) ?_
          refine TC.skip ?_
          refine TE.inNormal ?_
          refine TE.next ?_
          refine TC.region ?_
          refine' TL.y rfl rfl rfl ?hy103 ?_
          case hy103 => exact Yl.move rfl rfl
          refine' TL.y rfl rfl rfl ?hy104 ?_
          case hy104 => first | (refine Yl.val (Yl.bin rfl rfl rfl (Bin.add _ _ _ _)) (congrArg (Value.int .i64) (i64in ?_ ?_)) <;> omega) | exact Yl.bin rfl rfl rfl (Bin.add _ _ _ _)
          refine' TL.y rfl rfl rfl ?hy105 ?_
          case hy105 => exact Yl.assign rfl rfl
          refine TL.nil ?_
          refine TE.round (j + 1) ?hF106 ?hlt106 ?hs106 ?hm106
          case hF106 => exact hlj
          case hlt106 => (try dsimp only); omega
          case hs106 => exact ⟨rfl, rfl, rfl, rfl, rfl, rfl, trivial⟩
          case hm106 => exact fun _ h => h
        · skip
          refine TC.exit ?_
          refine TE.thenExit ?_
          refine TE.thenExit ?_
          refine TE.inHere ?_
          refine TE.next ?_
          refine TC.seq ?_
          refine TC.region ?_
          refine' TL.y rfl rfl rfl ?hy107 ?_
          case hy107 => exact Yl.move rfl rfl
          refine' TL.y rfl rfl rfl ?hy108 ?_
          case hy108 => exact Yl.assign rfl rfl
          refine TL.nil ?_
          refine TE.next ?_
          refine TC.ret ?_
          refine TE.ret1 rfl rfl ?_
          exact fun w h => ⟨by first | rfl | (simp; done) | (simp; omega), h.below⟩
theorem clocks_all (W : World) (l : List Int) (A : Option Addr) (cp : Nat) (hS : Sl W A (l.map (Value.int .i64))) (g : Int) : Calls Try.prog 6 #[.slice A l.length cp, .int .i64 g] W fun e w' => e = .returned (.bool true) ∧ Below W.heap.size W w' := by
  by_cases h0 : (100 < (l.length : Int))
  · exact clocks_out0 W l A cp hS g h0
  by_cases h1 : (g < 0)
  · exact clocks_out1 W l A cp hS g h0 h1
  by_cases h2 : (63 < g)
  · exact clocks_out2 W l A cp hS g h0 h1 h2
  exact clocks_good W l A cp hS g h0 h1 h2
end Go.Proofs.Ytpkpipkjmlhfaaa.Pure
