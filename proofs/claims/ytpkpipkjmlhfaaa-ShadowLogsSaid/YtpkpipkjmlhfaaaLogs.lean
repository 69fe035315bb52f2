/- The walk through ShadowLogs. -/
import Derived.Test.YtpkpipkjmlhfaaaRefLog
import Derived.Test.YtpkpipkjmlhfaaaClocks
import Derived.Test.YtpkpipkjmlhfaaaOpen
import Derived.RowKit3
namespace Go.Proofs.Ytpkpipkjmlhfaaa.Pure
open Go.RowKit Go.Proofs.Ytpkpipkjmlhfaaa.A Go.Proofs.Ytpkpipkjmlhfaaa.Ev Go.Proofs.YtpkpipkjmlhfaaaW.PrintWords Go.Proofs.YtpkpipkjmlhfaaaW.PrintLast Go.Proofs.YtpkpipkjmlhfaaaW.PrintMore
set_option linter.unusedVariables false
set_option linter.unusedSimpArgs false
open Go.Proofs.Ytpkpipkjmlhfaaa.HL
theorem ref_went_all (p c d : Nat) (f h : Nat → Int) (g : Int) (hb : ∀ k, 0 ≤ f k ∧ f k < 1000) : Turn Try.prog 19 #[.pointer (some ⟨p, 0, none⟩), .int .i64 g] (refR p c d f h) (.int .u64 (wentV f g)) (refR p c d (wentF f g) h) := by
  unfold wentV wentF
  by_cases h0 : 0 ≤ g
  · by_cases h1 : g < 64
    · rw [if_pos ⟨h0, h1⟩, if_pos ⟨h0, h1⟩]; exact ref_went p c d f h g h0 h1 (hb _)
    · rw [if_neg (by omega), if_neg (by omega)]; exact ref_wentN1 p _ g (by omega) (by omega)
  · rw [if_neg (by omega), if_neg (by omega)]; exact ref_wentN0 p _ g (by omega)
theorem wentF_bd (f : Nat → Int) (g n : Int) (h : ∀ k, 0 ≤ f k ∧ f k ≤ n) : ∀ k, 0 ≤ wentF f g k ∧ wentF f g k ≤ n + 1 := fun k => by
  have h1 := h k
  unfold wentF
  split
  · unfold A.up
    split
    · have := h g.toNat; omega
    · omega
  · omega
theorem cameH_bd (f : Nat → Int) (g n : Int) (h : ∀ k, 0 ≤ f k ∧ f k ≤ n) : ∀ k, 0 ≤ cameH f g k ∧ cameH f g k ≤ n + 1 := wentF_bd f g n h
theorem wentV_bd (f : Nat → Int) (g : Int) : 0 ≤ wentV f g ∧ wentV f g < 18446744073709551616 := by
  unfold wentV
  split
  · have := mk_range g (f g.toNat); omega
  · omega
theorem q_clockj {b : Nat} (f h : Nat → Int) (j : Nat) (hj : j < 64) (W : World) (H : LogAt W b f h) : Calls Try.prog 22 #[.pointer (some ⟨b, 0, none⟩), .int .i64 j] W fun e w' => e = .returned (.int .i64 (f j)) ∧ Below W.heap.size W w' := clock_in (j : Int) (by omega) (by omega) W H
theorem q_backj {b : Nat} (f h : Nat → Int) (j : Nat) (hj : j < 64) (W : World) (H : LogAt W b f h) : Calls Try.prog 23 #[.pointer (some ⟨b, 0, none⟩), .int .i64 j] W fun e w' => e = .returned (.int .i64 (h j)) ∧ Below W.heap.size W w' := back_in (j : Int) (by omega) (by omega) W H
attribute [local irreducible] logC rowC f0 A.up mk lookS distS nearS wentV wentF cameB cameH
set_option maxRecDepth 100000 in
set_option maxHeartbeats 2000000 in
theorem logs_big (W : World) (l : List Open.E37) (A : Option Addr) (cp : Nat) (hS : Sl W A (l.flatMap Open.E37.cells)) (hw : ∀ x ∈ l, Open.wf37 x) (h0 : 100 < (l.length : Int)) : Calls Try.prog 4 #[.slice A l.length cp] W fun e w' => e = .returned (.bool true) ∧ Below W.heap.size W w' := by
  have hM : Hp W (fun _ => False) [] W := Hp.start
  refine TC.enter (n := 152) Try.func4 rfl rfl rfl hM ?_
  refine TC.seq ?_
  refine TC.region ?_
  refine' TL.y rfl rfl rfl ?hy1 ?_
  case hy1 => exact Yl.assign rfl rfl
  refine TL.nil ?_
  refine TE.next ?_
  refine TC.seq ?_
  refine TC.region ?_
  refine' TL.c rfl rfl rfl ?hy2 ?_
  case hy2 => exact Yc.call rfl Try.func8 (by kernel_rfl) rfl rfl (Hp.calls (fun w h => works_walk w))
  intro _
  refine' TL.y rfl rfl rfl ?hy3 ?_
  case hy3 => exact Yl.assign rfl rfl
  refine TL.nil ?_
  refine TE.next ?_
  refine TC.seq ?_
  refine TC.seq ?_
  refine TC.region ?_
  refine' TL.y rfl rfl rfl ?hy4 ?_
  case hy4 => exact Yl.move rfl rfl
  refine' TL.y rfl rfl rfl ?hy5 ?_
  case hy5 => exact Yl.not rfl rfl
  refine TL.nil ?_
  refine TE.next ?_
  refine TC.no rfl rfl ?_
  refine TC.skip ?_
  refine TE.next ?_
  refine TC.seq ?_
  refine TC.seq ?_
  refine TC.region ?_
  refine' TL.y rfl rfl rfl ?hy6 ?_
  case hy6 => exact Yl.move rfl rfl
  refine' TL.y rfl rfl rfl ?hy7 ?_
  case hy7 => exact Yl.len rfl rfl Try.underlying30
  refine' TL.y rfl rfl rfl ?hy8 ?_
  case hy8 => exact Yl.bin rfl rfl rfl (Bin.gtr _ _ _ _)
  refine TL.nil ?_
  refine TE.next ?_
  refine TC.yes rfl (by first | (simp; done) | (simp; omega)) ?_
  refine TC.seq ?_
  refine TC.region ?_
  refine' TL.y rfl rfl rfl ?hy9 ?_
  case hy9 => exact Yl.move rfl rfl
  refine' TL.y rfl rfl rfl ?hy10 ?_
  case hy10 => exact Yl.assign rfl rfl
  refine TL.nil ?_
  refine TE.next ?_
  refine TC.ret ?_
  refine TE.thenRet ?_
  refine TE.ret1 rfl rfl ?_
  exact fun w h => ⟨by first | rfl | (simp; done) | (simp; omega), h.below⟩
set_option maxRecDepth 100000 in
set_option maxHeartbeats 2000000 in
theorem logs_good (W : World) (l : List Open.E37) (A : Option Addr) (cp : Nat) (hS : Sl W A (l.flatMap Open.E37.cells)) (hw : ∀ x ∈ l, Open.wf37 x) (h0 : ¬ 100 < (l.length : Int)) : Calls Try.prog 4 #[.slice A l.length cp] W fun e w' => e = .returned (.bool true) ∧ Below W.heap.size W w' := by
  have hM : Hp W (fun _ => False) [] W := Hp.start
  refine TC.enter (n := 152) Try.func4 rfl rfl rfl hM ?_
  refine TC.seq ?_
  refine TC.region ?_
  refine' TL.y rfl rfl rfl ?hy1 ?_
  case hy1 => exact Yl.assign rfl rfl
  refine TL.nil ?_
  refine TE.next ?_
  refine TC.seq ?_
  refine TC.region ?_
  refine' TL.c rfl rfl rfl ?hy2 ?_
  case hy2 => exact Yc.call rfl Try.func8 (by kernel_rfl) rfl rfl (Hp.calls (fun w h => works_walk w))
  intro _
  refine' TL.y rfl rfl rfl ?hy3 ?_
  case hy3 => exact Yl.assign rfl rfl
  refine TL.nil ?_
  refine TE.next ?_
  refine TC.seq ?_
  refine TC.seq ?_
  refine TC.region ?_
  refine' TL.y rfl rfl rfl ?hy4 ?_
  case hy4 => exact Yl.move rfl rfl
  refine' TL.y rfl rfl rfl ?hy5 ?_
  case hy5 => exact Yl.not rfl rfl
  refine TL.nil ?_
  refine TE.next ?_
  refine TC.no rfl rfl ?_
  refine TC.skip ?_
  refine TE.next ?_
  refine TC.seq ?_
  refine TC.seq ?_
  refine TC.region ?_
  refine' TL.y rfl rfl rfl ?hy6 ?_
  case hy6 => exact Yl.move rfl rfl
  refine' TL.y rfl rfl rfl ?hy7 ?_
  case hy7 => exact Yl.len rfl rfl Try.underlying30
  refine' TL.y rfl rfl rfl ?hy8 ?_
  case hy8 => exact Yl.bin rfl rfl rfl (Bin.gtr _ _ _ _)
  refine TL.nil ?_
  refine TE.next ?_
  refine TC.no rfl (by first | (simp; done) | (simp; omega)) ?_
  refine TC.skip ?_
  refine TE.next ?_
  refine TC.seq ?_
  refine TC.region ?_
  refine' TL.c rfl rfl rfl ?hy9 ?_
  case hy9 => exact Yc.call rfl Try.func16 (by kernel_rfl) rfl rfl (Hp.newB (fun w => w_new w))
  intro b4
  refine' TL.y rfl rfl rfl ?hy10 ?_
  case hy10 => exact Yl.assign rfl rfl
  refine TL.nil ?_
  refine TE.next ?_
  refine TC.seq ?_
  refine TC.region ?_
  refine' TL.c rfl rfl rfl ?hy11 ?_
  case hy11 => exact Yc.call rfl Try.func17 (by kernel_rfl) rfl rfl (Hp.makes ref_new)
  intro ⟨p, c, d⟩
  refine' TL.y rfl rfl rfl ?hy12 ?_
  case hy12 => exact Yl.assign rfl rfl
  refine TL.nil ?_
  refine TE.next ?_
  refine TC.seq ?_
  refine TC.region ?_
  refine' TL.y rfl rfl rfl ?hy13 ?_
  case hy13 => exact Yl.assign rfl rfl
  refine TL.nil ?_
  refine TE.next ?_
  refine TC.seq ?_
  refine TC.seq ?_
  refine TC.region ?_
  refine' TL.y rfl rfl rfl ?hy14 ?_
  case hy14 => exact Yl.assign rfl rfl
  refine TL.nil ?_
  refine TE.next ?_
  refine TC.block ?_
  refine TC.loop (σ := Nat × Value × (Nat → Int) × (Nat → Int) × List Int) (fun s => [(0, .slice A l.length cp), (3, .bool true), (4, .pointer (some ⟨b4, 0, none⟩)), (5, .pointer (some ⟨p, 0, none⟩)), (6, s.2.1), (7, .int .i64 (s.1 : Int))]) (fun s => Hp W (fun _ => False) [ownR 22 1 s.2.1 s.2.2.2.2.length (s.2.2.2.2.map (Value.int .u64)), refR p c d s.2.2.1 s.2.2.2.1, blk b4 (.cells (logC (s.2.2.1) (s.2.2.2.1)) 57 (0, 0))]) (fun s => s.1 ≤ l.length ∧ (∀ k, 0 ≤ s.2.2.1 k ∧ s.2.2.1 k ≤ s.1) ∧ (∀ k, 0 ≤ s.2.2.2.1 k ∧ s.2.2.2.1 k ≤ s.1) ∧ s.2.2.2.2.length ≤ s.1 ∧ ∀ x ∈ s.2.2.2.2, 0 ≤ x ∧ x < 18446744073709551616) (fun s => l.length - s.1) (0, .slice none 0 0, f0, f0, []) ?hF15 ?hs15 ?hm15 ?round15
  case hF15 => exact ⟨Nat.zero_le _, fun k => by unfold f0; simp, fun k => by unfold f0; simp, by simp, by simp⟩
  case hs15 => exact ⟨rfl, rfl, rfl, rfl, rfl, rfl, trivial⟩
  case hm15 => exact fun w h => h.nil (e := 22) (size := 1)
  case round15 =>
    rintro ⟨i, v, f, h, xs⟩ ⟨hi, hf, hh, hxl, hxs⟩
    dsimp only at hi hf hh hxl hxs ⊢
    refine TC.seq ?_
    refine TC.seq ?_
    refine TC.region ?_
    refine' TL.y rfl rfl rfl ?hy16 ?_
    case hy16 => exact Yl.move rfl rfl
    refine' TL.y rfl rfl rfl ?hy17 ?_
    case hy17 => exact Yl.move rfl rfl
    refine' TL.y rfl rfl rfl ?hy18 ?_
    case hy18 => exact Yl.len rfl rfl Try.underlying30
    refine' TL.y rfl rfl rfl ?hy19 ?_
    case hy19 => exact Yl.bin rfl rfl rfl (Bin.lss _ _ _ _)
    refine TL.nil ?_
    refine TE.next ?_
    refine TC.cond rfl (fun hs23 => ?_) (fun hs23 => ?_)
    · skip
      have hlt : i < l.length := by have := of_decide_eq_true hs23; omega
      obtain ⟨bb, oo, rfl⟩ := hS.some2 (by have := Open.at37_0 l i hlt; rw [List.getElem?_eq_some_iff] at this; obtain ⟨h1, _⟩ := this; omega)
      have hwi := hw _ (List.getElem_mem hlt)
      have hwx : 0 ≤ (l[i]'hlt).f3 ∧ (l[i]'hlt).f3 < 18446744073709551616 := of_u64 hwi.2.2.1
      have hwr : -9223372036854775808 ≤ (l[i]'hlt).f4 := (of_i64 hwi.2.2.2).1
      have hf2 : ∀ k, 0 ≤ f k ∧ f k < 1000 := fun k => by have := hf k; omega
      have hh2 : ∀ k, 0 ≤ h k ∧ h k < 1000 := fun k => by have := hh k; omega
      refine TC.skip ?_
      refine TE.next ?_
      refine TC.seq ?_
      refine TC.block ?_
      refine TC.seq ?_
      refine TC.seq ?_
      refine TC.region ?_
      refine' TL.y rfl rfl rfl ?hy20 ?_
      case hy20 => exact Yl.move rfl rfl
      refine' TL.y rfl rfl rfl ?hy21 ?_
      case hy21 => exact Yl.move rfl rfl
      refine' TL.y rfl rfl rfl ?hy22 ?_
      case hy22 => exact Yl.idxS (k := 5) (ad' := ⟨bb, oo + i * 5, none⟩) rfl rfl rfl Try.underlying30 (by kernel_rfl) (by omega) (by omega) (by simp [Addr.at_])
      refine' TL.y rfl rfl rfl ?hy23 ?_
      case hy23 => first | exact Yl.field0 (k := 0) 0 rfl rfl Try.underlying37 rfl (by kernel_rfl) rfl | exact Yl.field (k := 0) 0 rfl rfl Try.underlying37 rfl (by kernel_rfl) rfl
      refine' TL.y rfl rfl rfl ?hy24 ?_
      case hy24 => exact Yl.load rfl rfl (by kernel_rfl) (Sl.cellAt hS (Open.at37_0 l i hlt) (fun _ => id) (by omega))
      refine' TL.y rfl rfl rfl ?hy25 ?_
      case hy25 => exact Yl.not rfl rfl
      refine TL.nil ?_
      refine TE.next ?_
      refine TC.cond rfl (fun hs31 => ?_) (fun hs31 => ?_)
      · skip
        refine TC.seq ?_
        refine TC.region ?_
        refine' TL.y rfl rfl rfl ?hy26 ?_
        case hy26 => exact Yl.move rfl rfl
        refine' TL.y rfl rfl rfl ?hy27 ?_
        case hy27 => exact Yl.move rfl rfl
        refine' TL.y rfl rfl rfl ?hy28 ?_
        case hy28 => exact Yl.move rfl rfl
        refine' TL.y rfl rfl rfl ?hy29 ?_
        case hy29 => exact Yl.idxS (k := 5) (ad' := ⟨bb, oo + i * 5, none⟩) rfl rfl rfl Try.underlying30 (by kernel_rfl) (by omega) (by omega) (by simp [Addr.at_])
        refine' TL.y rfl rfl rfl ?hy30 ?_
        case hy30 => first | exact Yl.field0 (k := 0) 1 rfl rfl Try.underlying37 rfl (by kernel_rfl) rfl | exact Yl.field (k := 0) 1 rfl rfl Try.underlying37 rfl (by kernel_rfl) rfl
        refine' TL.y rfl rfl rfl ?hy31 ?_
        case hy31 => exact Yl.load rfl rfl (by kernel_rfl) (Sl.cellAt hS (Open.at37_1 l i hlt) (fun _ => id) (by omega))
        refine' TL.c rfl rfl rfl ?hy32 ?_
        case hy32 => exact Yc.call rfl Try.func18 (by kernel_rfl) rfl rfl (Hp.turnB mem2 foc2 (fun w hw => q_went f h (l[i]'hlt).f1 (fun _ _ => hf2 _) w hw))
        intro _
        refine' TL.y rfl rfl rfl ?hy33 ?_
        case hy33 => exact Yl.assign rfl rfl
        refine TL.nil ?_
        refine TE.next ?_
        refine TC.seq ?_
        refine TC.seq ?_
        refine TC.region ?_
        refine' TL.y rfl rfl rfl ?hy34 ?_
        case hy34 => exact Yl.move rfl rfl
        refine' TL.y rfl rfl rfl ?hy35 ?_
        case hy35 => exact Yl.move rfl rfl
        refine' TL.y rfl rfl rfl ?hy36 ?_
        case hy36 => exact Yl.move rfl rfl
        refine' TL.y rfl rfl rfl ?hy37 ?_
        case hy37 => exact Yl.move rfl rfl
        refine' TL.y rfl rfl rfl ?hy38 ?_
        case hy38 => exact Yl.idxS (k := 5) (ad' := ⟨bb, oo + i * 5, none⟩) rfl rfl rfl Try.underlying30 (by kernel_rfl) (by omega) (by omega) (by simp [Addr.at_])
        refine' TL.y rfl rfl rfl ?hy39 ?_
        case hy39 => first | exact Yl.field0 (k := 0) 1 rfl rfl Try.underlying37 rfl (by kernel_rfl) rfl | exact Yl.field (k := 0) 1 rfl rfl Try.underlying37 rfl (by kernel_rfl) rfl
        refine' TL.y rfl rfl rfl ?hy40 ?_
        case hy40 => exact Yl.load rfl rfl (by kernel_rfl) (Sl.cellAt hS (Open.at37_1 l i hlt) (fun _ => id) (by omega))
        refine' TL.c rfl rfl rfl ?hy41 ?_
        case hy41 => exact Yc.call rfl Try.func19 (by kernel_rfl) rfl rfl (Hp.turn1 mem1 foc1 (ref_went_all p c d f h (l[i]'hlt).f1 hf2))
        intro _
        refine' TL.y rfl rfl rfl ?hy42 ?_
        case hy42 => exact Yl.bin rfl rfl rfl (Bin.neq _ _ _ _)
        refine TL.nil ?_
        refine TE.next ?_
        refine TC.no rfl (by first | (simp; done) | simp) ?_
        refine TC.skip ?_
        refine TE.next ?_
        refine TC.seq ?_
        refine TC.region ?_
        refine' TL.y rfl rfl rfl ?hy43 ?_
        case hy43 => exact Yl.move rfl rfl
        refine' TL.y rfl rfl rfl ?hy44 ?_
        case hy44 => exact Yl.move rfl rfl
        refine' TL.mx rfl rfl rfl ?hy45 ?_
        case hy45 => exact Ym.buildSlice (cells := #[_]) (z := .int .u64 0) (size := 1) #[.int .u64 0] rfl Try.underlying35 (by kernel_rfl) (by decide) (by decide) (by kernel_rfl) rfl rfl
        intro b50
        refine' TL.mx rfl rfl rfl ?hy46 ?_
        case hy46 => exact Ym.append (news := [.int .u64 (wentV f (l[i]'hlt).f1)]) rfl Try.underlying35 (by kernel_rfl) (z := .int .u64 0) (size := 1) (bytes := 8) rfl (by decide) (by decide) rfl rfl rfl (Hp.cells mem0 (fun j v hj => by simpa [Value.cells] using hj)) (by simp [Value.oneCell']) (by omega) (fun v' => foc1)
        intro b51
        refine' TL.y rfl rfl rfl ?hy47 ?_
        case hy47 => exact Yl.assign rfl rfl
        refine TL.nil ?_
        refine TE.next ?_
        refine TC.exit ?_
        refine TE.thenExit ?_
        refine TE.inHere ?_
        refine TE.next ?_
        refine TC.region ?_
        refine' TL.y rfl rfl rfl ?hy48 ?_
        case hy48 => exact Yl.move rfl rfl
        refine' TL.y rfl rfl rfl ?hy49 ?_
        case hy49 => first | (refine Yl.val (Yl.bin rfl rfl rfl (Bin.add _ _ _ _)) (congrArg (Value.int .i64) (i64in ?_ ?_)) <;> omega) | exact Yl.bin rfl rfl rfl (Bin.add _ _ _ _)
        refine' TL.y rfl rfl rfl ?hy50 ?_
        case hy50 => exact Yl.assign rfl rfl
        refine TL.nil ?_
        refine TE.round (i + 1, b51, wentF f (l[i]'hlt).f1, h, xs ++ [wentV f (l[i]'hlt).f1]) ?hF51 ?hlt51 ?hs51 ?hm51
        case hF51 => exact ⟨hlt, fun k => by have := wentF_bd f (l[i]'hlt).f1 i hf k; dsimp only; omega, fun k => by have := hh k; dsimp only; omega, by simp; omega, fun x hx => by rcases List.mem_append.1 hx with hx | hx; exact hxs x hx; rw [List.mem_singleton.1 hx]; exact wentV_bd _ _⟩
        case hlt51 => dsimp only; omega
        case hs51 => exact ⟨rfl, rfl, rfl, rfl, rfl, rfl, trivial⟩
        case hm51 => exact fun w h => by have h2 := h.sub (.cons _ (.refl _)); simpa using h2
      · skip
        refine TC.skip ?_
        refine TE.next ?_
        refine TC.seq ?_
        refine TC.region ?_
        refine' TL.y rfl rfl rfl ?hy52 ?_
        case hy52 => exact Yl.move rfl rfl
        refine' TL.y rfl rfl rfl ?hy53 ?_
        case hy53 => exact Yl.move rfl rfl
        refine' TL.y rfl rfl rfl ?hy54 ?_
        case hy54 => exact Yl.idxS (k := 5) (ad' := ⟨bb, oo + i * 5, none⟩) rfl rfl rfl Try.underlying30 (by kernel_rfl) (by omega) (by omega) (by simp [Addr.at_])
        refine' TL.y rfl rfl rfl ?hy55 ?_
        case hy55 => first | exact Yl.field0 (k := 0) 3 rfl rfl Try.underlying37 rfl (by kernel_rfl) rfl | exact Yl.field (k := 0) 3 rfl rfl Try.underlying37 rfl (by kernel_rfl) rfl
        refine' TL.y rfl rfl rfl ?hy56 ?_
        case hy56 => exact Yl.load rfl rfl (by kernel_rfl) (Sl.cellAt hS (Open.at37_3 l i hlt) (fun _ => id) (by omega))
        obtain ⟨X, hX, hXb⟩ : ∃ X : Int, (l[i]'hlt).f3 = X ∧ 0 ≤ X ∧ X < 18446744073709551616 := ⟨_, rfl, hwx⟩
        rw [hX]
        refine' TL.y rfl rfl rfl ?hy57 ?_
        case hy57 => exact Yl.assign rfl rfl
        refine TL.nil ?_
        refine TE.next ?_
        refine TC.seq ?_
        refine TC.seq ?_
        refine TC.region ?_
        refine' TL.y rfl rfl rfl ?hy58 ?_
        case hy58 => exact Yl.move rfl rfl
        refine' TL.y rfl rfl rfl ?hy59 ?_
        case hy59 => exact Yl.move rfl rfl
        refine' TL.y rfl rfl rfl ?hy60 ?_
        case hy60 => exact Yl.idxS (k := 5) (ad' := ⟨bb, oo + i * 5, none⟩) rfl rfl rfl Try.underlying30 (by kernel_rfl) (by omega) (by omega) (by simp [Addr.at_])
        refine' TL.y rfl rfl rfl ?hy61 ?_
        case hy61 => first | exact Yl.field0 (k := 0) 2 rfl rfl Try.underlying37 rfl (by kernel_rfl) rfl | exact Yl.field (k := 0) 2 rfl rfl Try.underlying37 rfl (by kernel_rfl) rfl
        refine' TL.y rfl rfl rfl ?hy62 ?_
        case hy62 => exact Yl.load rfl rfl (by kernel_rfl) (Sl.cellAt hS (Open.at37_2 l i hlt) (fun _ => id) (by omega))
        refine' TL.y rfl rfl rfl ?hy63 ?_
        case hy63 => exact Yl.bin rfl rfl rfl (Bin.geq _ _ _ _)
        refine' TL.y rfl rfl rfl ?hy64 ?_
        case hy64 => exact Yl.move rfl rfl
        refine TL.split (i := 63) rfl (fun hs63 => ?_) (fun hs63 => ?_)
        · skip
          refine' TL.y rfl rfl rfl ?hy65 ?_
          case hy65 => exact Yl.move rfl rfl
          refine' TL.y rfl rfl rfl ?hy66 ?_
          case hy66 => exact Yl.move rfl rfl
          refine' TL.y rfl rfl rfl ?hy67 ?_
          case hy67 => exact Yl.idxS (k := 5) (ad' := ⟨bb, oo + i * 5, none⟩) rfl rfl rfl Try.underlying30 (by kernel_rfl) (by omega) (by omega) (by simp [Addr.at_])
          refine' TL.y rfl rfl rfl ?hy68 ?_
          case hy68 => first | exact Yl.field0 (k := 0) 2 rfl rfl Try.underlying37 rfl (by kernel_rfl) rfl | exact Yl.field (k := 0) 2 rfl rfl Try.underlying37 rfl (by kernel_rfl) rfl
          refine' TL.y rfl rfl rfl ?hy69 ?_
          case hy69 => exact Yl.load rfl rfl (by kernel_rfl) (Sl.cellAt hS (Open.at37_2 l i hlt) (fun _ => id) (by omega))
          refine' TL.y rfl rfl rfl ?hy70 ?_
          case hy70 => exact Yl.move rfl rfl
          refine' TL.y rfl rfl rfl ?hy71 ?_
          case hy71 => exact Yl.lenR rfl rfl Try.underlying35 mem0
          refine' TL.y rfl rfl rfl ?hy72 ?_
          case hy72 => exact Yl.bin rfl rfl rfl (Bin.lss _ _ _ _)
          refine' TL.y rfl rfl rfl ?hy73 ?_
          case hy73 => exact Yl.pickT rfl rfl rfl
          refine TL.nil ?_
          refine TE.next ?_
          refine TC.cond rfl (fun hs72 => ?_) (fun hs72 => ?_)
          · skip
            have hat1 : (l[i]'hlt).f2 < (xs.length : Int) := of_decide_eq_true hs72
            have hat0 : 0 ≤ (l[i]'hlt).f2 := of_decide_eq_true hs63
            refine TC.fact (Hp.ownSome mem0 (by omega)) ?_
            rintro ⟨gb, cap, rfl⟩
            have hxa : (xs.map (Value.int .u64))[(l[i]'hlt).f2.toNat]? = some (.int .u64 (xs[(l[i]'hlt).f2.toNat]'(by omega))) := by simp
            have hxb := hxs _ (List.getElem_mem (show (l[i]'hlt).f2.toNat < xs.length by omega))
            refine TC.region ?_
            refine' TL.y rfl rfl rfl ?hy74 ?_
            case hy74 => exact Yl.move rfl rfl
            refine' TL.y rfl rfl rfl ?hy75 ?_
            case hy75 => exact Yl.move rfl rfl
            refine' TL.y rfl rfl rfl ?hy76 ?_
            case hy76 => exact Yl.move rfl rfl
            refine' TL.y rfl rfl rfl ?hy77 ?_
            case hy77 => exact Yl.idxS (k := 5) (ad' := ⟨bb, oo + i * 5, none⟩) rfl rfl rfl Try.underlying30 (by kernel_rfl) (by omega) (by omega) (by simp [Addr.at_])
            refine' TL.y rfl rfl rfl ?hy78 ?_
            case hy78 => first | exact Yl.field0 (k := 0) 2 rfl rfl Try.underlying37 rfl (by kernel_rfl) rfl | exact Yl.field (k := 0) 2 rfl rfl Try.underlying37 rfl (by kernel_rfl) rfl
            refine' TL.y rfl rfl rfl ?hy79 ?_
            case hy79 => exact Yl.load rfl rfl (by kernel_rfl) (Sl.cellAt hS (Open.at37_2 l i hlt) (fun _ => id) (by omega))
            refine' TL.y rfl rfl rfl ?hy80 ?_
            case hy80 => exact Yl.idxS (k := 1) (ad' := ⟨gb, (l[i]'hlt).f2.toNat, none⟩) rfl rfl rfl Try.underlying35 (by kernel_rfl) (by omega) (by omega) (by simp [Addr.at_])
            refine' TL.y rfl rfl rfl ?hy81 ?_
            case hy81 => exact Yl.load rfl rfl (by kernel_rfl) (Hp.ownCell mem0 hxa)
            clear hX hXb
            obtain ⟨X, hX, hXb⟩ : ∃ X : Int, xs[(l[i]'hlt).f2.toNat]'(by omega) = X ∧ 0 ≤ X ∧ X < 18446744073709551616 := ⟨_, rfl, hxb⟩
            rw [hX]
            refine' TL.y rfl rfl rfl ?hy82 ?_
            case hy82 => exact Yl.assign rfl rfl
            refine TL.nil ?_
            refine TE.next ?_
            refine TC.seq ?_
            refine TC.draw (k := 27) (Hp W (fun _ => False) []) [] #[false, false, false, false, false, false, false, false, false, false, false, false, false, false, false, false, false, false, false, false, false, false, false, false, false, false, false] (by kernel_rfl) rfl rfl (fun _ h => h.drew) (fun _ h => h.sub (List.nil_sublist _)) ?_
            refine' TA.y (i := 0) #[true, false, false, false, false, false, false, false, false, false, false, false, false, false, false, false, false, false, false, false, false, false, false, false, false, false, false] rfl rfl rfl (by kernel_rfl) (fun _ _ _ h => h) (fun _ h => by exact Hp.sub h (by repeat (first | exact List.Sublist.refl _ | apply List.Sublist.cons))) rfl ?hy83 ?_
            case hy83 => exact Yl.move rfl rfl
            refine' TA.y (i := 1) #[true, true, false, false, false, false, false, false, false, false, false, false, false, false, false, false, false, false, false, false, false, false, false, false, false, false, false] rfl rfl rfl (by kernel_rfl) (fun _ _ _ h => h) (fun _ h => by exact Hp.sub h (by repeat (first | exact List.Sublist.refl _ | apply List.Sublist.cons))) rfl ?hy84 ?_
            case hy84 => exact Yl.move rfl rfl
            refine' TA.y (i := 2) #[true, true, true, false, false, false, false, false, false, false, false, false, false, false, false, false, false, false, false, false, false, false, false, false, false, false, false] rfl rfl rfl (by kernel_rfl) (fun _ _ _ h => h) (fun _ h => by exact Hp.sub h (by repeat (first | exact List.Sublist.refl _ | apply List.Sublist.cons))) rfl ?hy85 ?_
            case hy85 => exact Yl.move rfl rfl
            refine' TA.y (i := 3) #[true, true, true, true, false, false, false, false, false, false, false, false, false, false, false, false, false, false, false, false, false, false, false, false, false, false, false] rfl rfl rfl (by kernel_rfl) (fun _ _ _ h => h) (fun _ h => by exact Hp.sub h (by repeat (first | exact List.Sublist.refl _ | apply List.Sublist.cons))) rfl ?hy86 ?_
            case hy86 => exact Yl.move rfl rfl
            refine' TA.y (i := 4) #[true, true, true, true, true, false, false, false, false, false, false, false, false, false, false, false, false, false, false, false, false, false, false, false, false, false, false] rfl rfl rfl (by kernel_rfl) (fun _ _ _ h => h) (fun _ h => by exact Hp.sub h (by repeat (first | exact List.Sublist.refl _ | apply List.Sublist.cons))) rfl ?hy87 ?_
            case hy87 => exact Yl.idxS (k := 5) (ad' := ⟨bb, oo + i * 5, none⟩) rfl rfl rfl Try.underlying30 (by kernel_rfl) (by omega) (by omega) (by simp [Addr.at_])
            refine' TA.y (i := 5) #[true, true, true, true, true, true, false, false, false, false, false, false, false, false, false, false, false, false, false, false, false, false, false, false, false, false, false] rfl rfl rfl (by kernel_rfl) (fun _ _ _ h => h) (fun _ h => by exact Hp.sub h (by repeat (first | exact List.Sublist.refl _ | apply List.Sublist.cons))) rfl ?hy88 ?_
            case hy88 => first | exact Yl.field0 (k := 0) 1 rfl rfl Try.underlying37 rfl (by kernel_rfl) rfl | exact Yl.field (k := 0) 1 rfl rfl Try.underlying37 rfl (by kernel_rfl) rfl
            refine' TA.y (i := 6) #[true, true, true, true, true, true, true, false, false, false, false, false, false, false, false, false, false, false, false, false, false, false, false, false, false, false, false] rfl rfl rfl (by kernel_rfl) (fun _ _ _ h => h) (fun _ h => by exact Hp.sub h (by repeat (first | exact List.Sublist.refl _ | apply List.Sublist.cons))) rfl ?hy89 ?_
            case hy89 => exact Yl.load rfl rfl (by kernel_rfl) (Sl.cellAt hS (Open.at37_1 l i hlt) (fun _ => id) (by omega))
            refine' TA.y (i := 7) #[true, true, true, true, true, true, true, true, false, false, false, false, false, false, false, false, false, false, false, false, false, false, false, false, false, false, false] rfl rfl rfl (by kernel_rfl) (fun _ _ _ h => h) (fun _ h => by exact Hp.sub h (by repeat (first | exact List.Sublist.refl _ | apply List.Sublist.cons))) rfl ?hy90 ?_
            case hy90 => exact Yl.move rfl rfl
            refine' TA.y (i := 8) #[true, true, true, true, true, true, true, true, true, false, false, false, false, false, false, false, false, false, false, false, false, false, false, false, false, false, false] rfl rfl rfl (by kernel_rfl) (fun _ _ _ h => h) (fun _ h => by exact Hp.sub h (by repeat (first | exact List.Sublist.refl _ | apply List.Sublist.cons))) rfl ?hy91 ?_
            case hy91 => exact Yl.move rfl rfl
            refine' TA.y (i := 9) #[true, true, true, true, true, true, true, true, true, true, false, false, false, false, false, false, false, false, false, false, false, false, false, false, false, false, false] rfl rfl rfl (by kernel_rfl) (fun _ _ _ h => h) (fun _ h => by exact Hp.sub h (by repeat (first | exact List.Sublist.refl _ | apply List.Sublist.cons))) rfl ?hy92 ?_
            case hy92 => exact Yl.idxS (k := 5) (ad' := ⟨bb, oo + i * 5, none⟩) rfl rfl rfl Try.underlying30 (by kernel_rfl) (by omega) (by omega) (by simp [Addr.at_])
            refine' TA.y (i := 10) #[true, true, true, true, true, true, true, true, true, true, true, false, false, false, false, false, false, false, false, false, false, false, false, false, false, false, false] rfl rfl rfl (by kernel_rfl) (fun _ _ _ h => h) (fun _ h => by exact Hp.sub h (by repeat (first | exact List.Sublist.refl _ | apply List.Sublist.cons))) rfl ?hy93 ?_
            case hy93 => first | exact Yl.field0 (k := 0) 4 rfl rfl Try.underlying37 rfl (by kernel_rfl) rfl | exact Yl.field (k := 0) 4 rfl rfl Try.underlying37 rfl (by kernel_rfl) rfl
            refine' TA.y (i := 11) #[true, true, true, true, true, true, true, true, true, true, true, true, false, false, false, false, false, false, false, false, false, false, false, false, false, false, false] rfl rfl rfl (by kernel_rfl) (fun _ _ _ h => h) (fun _ h => by exact Hp.sub h (by repeat (first | exact List.Sublist.refl _ | apply List.Sublist.cons))) rfl ?hy94 ?_
            case hy94 => exact Yl.load rfl rfl (by kernel_rfl) (Sl.cellAt hS (Open.at37_4 l i hlt) (fun _ => id) (by omega))
            refine' TA.y (i := 13) #[true, true, true, true, true, true, true, true, true, true, true, true, false, true, false, false, false, false, false, false, false, false, false, false, false, false, false] rfl rfl rfl (by kernel_rfl) (fun _ _ _ h => h) (fun _ h => by exact Hp.sub h (by repeat (first | exact List.Sublist.refl _ | apply List.Sublist.cons))) rfl ?hy95 ?_
            case hy95 => exact Yl.move rfl rfl
            refine' TA.y (i := 14) #[true, true, true, true, true, true, true, true, true, true, true, true, false, true, true, false, false, false, false, false, false, false, false, false, false, false, false] rfl rfl rfl (by kernel_rfl) (fun _ _ _ h => h) (fun _ h => by exact Hp.sub h (by repeat (first | exact List.Sublist.refl _ | apply List.Sublist.cons))) rfl ?hy96 ?_
            case hy96 => exact Yl.move rfl rfl
            refine' TA.y (i := 15) #[true, true, true, true, true, true, true, true, true, true, true, true, false, true, true, true, false, false, false, false, false, false, false, false, false, false, false] rfl rfl rfl (by kernel_rfl) (fun _ _ _ h => h) (fun _ h => by exact Hp.sub h (by repeat (first | exact List.Sublist.refl _ | apply List.Sublist.cons))) rfl ?hy97 ?_
            case hy97 => exact Yl.move rfl rfl
            refine' TA.y (i := 16) #[true, true, true, true, true, true, true, true, true, true, true, true, false, true, true, true, true, false, false, false, false, false, false, false, false, false, false] rfl rfl rfl (by kernel_rfl) (fun _ _ _ h => h) (fun _ h => by exact Hp.sub h (by repeat (first | exact List.Sublist.refl _ | apply List.Sublist.cons))) rfl ?hy98 ?_
            case hy98 => exact Yl.move rfl rfl
            refine' TA.y (i := 17) #[true, true, true, true, true, true, true, true, true, true, true, true, false, true, true, true, true, true, false, false, false, false, false, false, false, false, false] rfl rfl rfl (by kernel_rfl) (fun _ _ _ h => h) (fun _ h => by exact Hp.sub h (by repeat (first | exact List.Sublist.refl _ | apply List.Sublist.cons))) rfl ?hy99 ?_
            case hy99 => exact Yl.idxS (k := 5) (ad' := ⟨bb, oo + i * 5, none⟩) rfl rfl rfl Try.underlying30 (by kernel_rfl) (by omega) (by omega) (by simp [Addr.at_])
            refine' TA.y (i := 18) #[true, true, true, true, true, true, true, true, true, true, true, true, false, true, true, true, true, true, true, false, false, false, false, false, false, false, false] rfl rfl rfl (by kernel_rfl) (fun _ _ _ h => h) (fun _ h => by exact Hp.sub h (by repeat (first | exact List.Sublist.refl _ | apply List.Sublist.cons))) rfl ?hy100 ?_
            case hy100 => first | exact Yl.field0 (k := 0) 1 rfl rfl Try.underlying37 rfl (by kernel_rfl) rfl | exact Yl.field (k := 0) 1 rfl rfl Try.underlying37 rfl (by kernel_rfl) rfl
            refine' TA.y (i := 19) #[true, true, true, true, true, true, true, true, true, true, true, true, false, true, true, true, true, true, true, true, false, false, false, false, false, false, false] rfl rfl rfl (by kernel_rfl) (fun _ _ _ h => h) (fun _ h => by exact Hp.sub h (by repeat (first | exact List.Sublist.refl _ | apply List.Sublist.cons))) rfl ?hy101 ?_
            case hy101 => exact Yl.load rfl rfl (by kernel_rfl) (Sl.cellAt hS (Open.at37_1 l i hlt) (fun _ => id) (by omega))
            refine' TA.y (i := 20) #[true, true, true, true, true, true, true, true, true, true, true, true, false, true, true, true, true, true, true, true, true, false, false, false, false, false, false] rfl rfl rfl (by kernel_rfl) (fun _ _ _ h => h) (fun _ h => by exact Hp.sub h (by repeat (first | exact List.Sublist.refl _ | apply List.Sublist.cons))) rfl ?hy102 ?_
            case hy102 => exact Yl.move rfl rfl
            refine' TA.y (i := 21) #[true, true, true, true, true, true, true, true, true, true, true, true, false, true, true, true, true, true, true, true, true, true, false, false, false, false, false] rfl rfl rfl (by kernel_rfl) (fun _ _ _ h => h) (fun _ h => by exact Hp.sub h (by repeat (first | exact List.Sublist.refl _ | apply List.Sublist.cons))) rfl ?hy103 ?_
            case hy103 => exact Yl.move rfl rfl
            refine' TA.y (i := 22) #[true, true, true, true, true, true, true, true, true, true, true, true, false, true, true, true, true, true, true, true, true, true, true, false, false, false, false] rfl rfl rfl (by kernel_rfl) (fun _ _ _ h => h) (fun _ h => by exact Hp.sub h (by repeat (first | exact List.Sublist.refl _ | apply List.Sublist.cons))) rfl ?hy104 ?_
            case hy104 => exact Yl.idxS (k := 5) (ad' := ⟨bb, oo + i * 5, none⟩) rfl rfl rfl Try.underlying30 (by kernel_rfl) (by omega) (by omega) (by simp [Addr.at_])
            refine' TA.y (i := 23) #[true, true, true, true, true, true, true, true, true, true, true, true, false, true, true, true, true, true, true, true, true, true, true, true, false, false, false] rfl rfl rfl (by kernel_rfl) (fun _ _ _ h => h) (fun _ h => by exact Hp.sub h (by repeat (first | exact List.Sublist.refl _ | apply List.Sublist.cons))) rfl ?hy105 ?_
            case hy105 => first | exact Yl.field0 (k := 0) 4 rfl rfl Try.underlying37 rfl (by kernel_rfl) rfl | exact Yl.field (k := 0) 4 rfl rfl Try.underlying37 rfl (by kernel_rfl) rfl
            refine' TA.y (i := 24) #[true, true, true, true, true, true, true, true, true, true, true, true, false, true, true, true, true, true, true, true, true, true, true, true, true, false, false] rfl rfl rfl (by kernel_rfl) (fun _ _ _ h => h) (fun _ h => by exact Hp.sub h (by repeat (first | exact List.Sublist.refl _ | apply List.Sublist.cons))) rfl ?hy106 ?_
            case hy106 => exact Yl.load rfl rfl (by kernel_rfl) (Sl.cellAt hS (Open.at37_4 l i hlt) (fun _ => id) (by omega))
            refine' TA.c (i := 12) #[true, true, true, true, true, true, true, true, true, true, true, true, true, true, true, true, true, true, true, true, true, true, true, true, true, false, false] rfl rfl rfl (by kernel_rfl) (by decide) rfl ?hy107 ?hz107 ?_
            case hy107 => exact Yc.call rfl Try.func20 (by kernel_rfl) rfl rfl (Hp.turnB mem2 foc2 (fun w hw => lo_came f h X hXb.1 hXb.2 (l[i]'hlt).f1 (l[i]'hlt).f4 hwr hf2 hh2 w hw))
            case hz107 => exact (fun _ _ h => by exact Hp.sub h (by repeat (first | exact List.Sublist.refl _ | apply List.Sublist.cons)))
            intro _
            refine' TA.c (i := 25) #[true, true, true, true, true, true, true, true, true, true, true, true, true, true, true, true, true, true, true, true, true, true, true, true, true, true, false] rfl rfl rfl (by kernel_rfl) (by decide) rfl ?hy108 ?hz108 ?_
            case hy108 => exact Yc.call rfl Try.func21 (by kernel_rfl) rfl rfl (Hp.turn1 mem1 foc1 (ref_came p c d f h X hXb.1 hXb.2 (l[i]'hlt).f1 (l[i]'hlt).f4 hf2 hh2))
            case hz108 => exact (fun _ _ h => by exact Hp.sub h (by repeat (first | exact List.Sublist.refl _ | apply List.Sublist.cons)))
            intro _
            refine' TA.y (i := 26) #[true, true, true, true, true, true, true, true, true, true, true, true, true, true, true, true, true, true, true, true, true, true, true, true, true, true, true] rfl rfl rfl (by kernel_rfl) (fun _ _ _ h => h) (fun _ h => by exact Hp.sub h (by repeat (first | exact List.Sublist.refl _ | apply List.Sublist.cons))) rfl ?hy109 ?_
            case hy109 => exact Yl.bin rfl rfl rfl (Bin.neqB _ _ _ (by kernel_rfl))
            refine TA.done (by kernel_rfl) ?_
            refine TE.next ?_
            refine TC.no rfl (by first | (simp; done) | simp) ?_
            refine TC.skip ?_
            refine TE.inNormal ?_
            refine TE.next ?_
            refine TC.region ?_
            refine' TL.y rfl rfl rfl ?hy110 ?_
            case hy110 => exact Yl.move rfl rfl
            refine' TL.y rfl rfl rfl ?hy111 ?_
            case hy111 => first | (refine Yl.val (Yl.bin rfl rfl rfl (Bin.add _ _ _ _)) (congrArg (Value.int .i64) (i64in ?_ ?_)) <;> omega) | exact Yl.bin rfl rfl rfl (Bin.add _ _ _ _)
            refine' TL.y rfl rfl rfl ?hy112 ?_
            case hy112 => exact Yl.assign rfl rfl
            refine TL.nil ?_
            refine TE.round (i + 1, Value.slice (some ⟨gb, 0, none⟩) xs.length cap, f, (if cameB f X (l[i]'hlt).f4 then cameH h (l[i]'hlt).f1 else h), xs) ?hF113 ?hlt113 ?hs113 ?hm113
            case hF113 => exact ⟨hlt, fun k => by have := hf k; dsimp only; omega, fun k => by have := hh k; have := cameH_bd h (l[i]'hlt).f1 i hh k; dsimp only; split <;> omega, by dsimp only; omega, hxs⟩
            case hlt113 => dsimp only; omega
            case hs113 => exact ⟨rfl, rfl, rfl, rfl, rfl, rfl, trivial⟩
            case hm113 => exact fun _ h => h
          · skip
            refine TC.skip ?_
            refine TE.next ?_
            refine TC.seq ?_
            refine TC.draw (k := 27) (Hp W (fun _ => False) []) [] #[false, false, false, false, false, false, false, false, false, false, false, false, false, false, false, false, false, false, false, false, false, false, false, false, false, false, false] (by kernel_rfl) rfl rfl (fun _ h => h.drew) (fun _ h => h.sub (List.nil_sublist _)) ?_
            refine' TA.y (i := 0) #[true, false, false, false, false, false, false, false, false, false, false, false, false, false, false, false, false, false, false, false, false, false, false, false, false, false, false] rfl rfl rfl (by kernel_rfl) (fun _ _ _ h => h) (fun _ h => by exact Hp.sub h (by repeat (first | exact List.Sublist.refl _ | apply List.Sublist.cons))) rfl ?hy114 ?_
            case hy114 => exact Yl.move rfl rfl
            refine' TA.y (i := 1) #[true, true, false, false, false, false, false, false, false, false, false, false, false, false, false, false, false, false, false, false, false, false, false, false, false, false, false] rfl rfl rfl (by kernel_rfl) (fun _ _ _ h => h) (fun _ h => by exact Hp.sub h (by repeat (first | exact List.Sublist.refl _ | apply List.Sublist.cons))) rfl ?hy115 ?_
            case hy115 => exact Yl.move rfl rfl
            refine' TA.y (i := 2) #[true, true, true, false, false, false, false, false, false, false, false, false, false, false, false, false, false, false, false, false, false, false, false, false, false, false, false] rfl rfl rfl (by kernel_rfl) (fun _ _ _ h => h) (fun _ h => by exact Hp.sub h (by repeat (first | exact List.Sublist.refl _ | apply List.Sublist.cons))) rfl ?hy116 ?_
            case hy116 => exact Yl.move rfl rfl
            refine' TA.y (i := 3) #[true, true, true, true, false, false, false, false, false, false, false, false, false, false, false, false, false, false, false, false, false, false, false, false, false, false, false] rfl rfl rfl (by kernel_rfl) (fun _ _ _ h => h) (fun _ h => by exact Hp.sub h (by repeat (first | exact List.Sublist.refl _ | apply List.Sublist.cons))) rfl ?hy117 ?_
            case hy117 => exact Yl.move rfl rfl
            refine' TA.y (i := 4) #[true, true, true, true, true, false, false, false, false, false, false, false, false, false, false, false, false, false, false, false, false, false, false, false, false, false, false] rfl rfl rfl (by kernel_rfl) (fun _ _ _ h => h) (fun _ h => by exact Hp.sub h (by repeat (first | exact List.Sublist.refl _ | apply List.Sublist.cons))) rfl ?hy118 ?_
            case hy118 => exact Yl.idxS (k := 5) (ad' := ⟨bb, oo + i * 5, none⟩) rfl rfl rfl Try.underlying30 (by kernel_rfl) (by omega) (by omega) (by simp [Addr.at_])
            refine' TA.y (i := 5) #[true, true, true, true, true, true, false, false, false, false, false, false, false, false, false, false, false, false, false, false, false, false, false, false, false, false, false] rfl rfl rfl (by kernel_rfl) (fun _ _ _ h => h) (fun _ h => by exact Hp.sub h (by repeat (first | exact List.Sublist.refl _ | apply List.Sublist.cons))) rfl ?hy119 ?_
            case hy119 => first | exact Yl.field0 (k := 0) 1 rfl rfl Try.underlying37 rfl (by kernel_rfl) rfl | exact Yl.field (k := 0) 1 rfl rfl Try.underlying37 rfl (by kernel_rfl) rfl
            refine' TA.y (i := 6) #[true, true, true, true, true, true, true, false, false, false, false, false, false, false, false, false, false, false, false, false, false, false, false, false, false, false, false] rfl rfl rfl (by kernel_rfl) (fun _ _ _ h => h) (fun _ h => by exact Hp.sub h (by repeat (first | exact List.Sublist.refl _ | apply List.Sublist.cons))) rfl ?hy120 ?_
            case hy120 => exact Yl.load rfl rfl (by kernel_rfl) (Sl.cellAt hS (Open.at37_1 l i hlt) (fun _ => id) (by omega))
            refine' TA.y (i := 7) #[true, true, true, true, true, true, true, true, false, false, false, false, false, false, false, false, false, false, false, false, false, false, false, false, false, false, false] rfl rfl rfl (by kernel_rfl) (fun _ _ _ h => h) (fun _ h => by exact Hp.sub h (by repeat (first | exact List.Sublist.refl _ | apply List.Sublist.cons))) rfl ?hy121 ?_
            case hy121 => exact Yl.move rfl rfl
            refine' TA.y (i := 8) #[true, true, true, true, true, true, true, true, true, false, false, false, false, false, false, false, false, false, false, false, false, false, false, false, false, false, false] rfl rfl rfl (by kernel_rfl) (fun _ _ _ h => h) (fun _ h => by exact Hp.sub h (by repeat (first | exact List.Sublist.refl _ | apply List.Sublist.cons))) rfl ?hy122 ?_
            case hy122 => exact Yl.move rfl rfl
            refine' TA.y (i := 9) #[true, true, true, true, true, true, true, true, true, true, false, false, false, false, false, false, false, false, false, false, false, false, false, false, false, false, false] rfl rfl rfl (by kernel_rfl) (fun _ _ _ h => h) (fun _ h => by exact Hp.sub h (by repeat (first | exact List.Sublist.refl _ | apply List.Sublist.cons))) rfl ?hy123 ?_
            case hy123 => exact Yl.idxS (k := 5) (ad' := ⟨bb, oo + i * 5, none⟩) rfl rfl rfl Try.underlying30 (by kernel_rfl) (by omega) (by omega) (by simp [Addr.at_])
            refine' TA.y (i := 10) #[true, true, true, true, true, true, true, true, true, true, true, false, false, false, false, false, false, false, false, false, false, false, false, false, false, false, false] rfl rfl rfl (by kernel_rfl) (fun _ _ _ h => h) (fun _ h => by exact Hp.sub h (by repeat (first | exact List.Sublist.refl _ | apply List.Sublist.cons))) rfl ?hy124 ?_
            case hy124 => first | exact Yl.field0 (k := 0) 4 rfl rfl Try.underlying37 rfl (by kernel_rfl) rfl | exact Yl.field (k := 0) 4 rfl rfl Try.underlying37 rfl (by kernel_rfl) rfl
            refine' TA.y (i := 11) #[true, true, true, true, true, true, true, true, true, true, true, true, false, false, false, false, false, false, false, false, false, false, false, false, false, false, false] rfl rfl rfl (by kernel_rfl) (fun _ _ _ h => h) (fun _ h => by exact Hp.sub h (by repeat (first | exact List.Sublist.refl _ | apply List.Sublist.cons))) rfl ?hy125 ?_
            case hy125 => exact Yl.load rfl rfl (by kernel_rfl) (Sl.cellAt hS (Open.at37_4 l i hlt) (fun _ => id) (by omega))
            refine' TA.y (i := 13) #[true, true, true, true, true, true, true, true, true, true, true, true, false, true, false, false, false, false, false, false, false, false, false, false, false, false, false] rfl rfl rfl (by kernel_rfl) (fun _ _ _ h => h) (fun _ h => by exact Hp.sub h (by repeat (first | exact List.Sublist.refl _ | apply List.Sublist.cons))) rfl ?hy126 ?_
            case hy126 => exact Yl.move rfl rfl
            refine' TA.y (i := 14) #[true, true, true, true, true, true, true, true, true, true, true, true, false, true, true, false, false, false, false, false, false, false, false, false, false, false, false] rfl rfl rfl (by kernel_rfl) (fun _ _ _ h => h) (fun _ h => by exact Hp.sub h (by repeat (first | exact List.Sublist.refl _ | apply List.Sublist.cons))) rfl ?hy127 ?_
            case hy127 => exact Yl.move rfl rfl
            refine' TA.y (i := 15) #[true, true, true, true, true, true, true, true, true, true, true, true, false, true, true, true, false, false, false, false, false, false, false, false, false, false, false] rfl rfl rfl (by kernel_rfl) (fun _ _ _ h => h) (fun _ h => by exact Hp.sub h (by repeat (first | exact List.Sublist.refl _ | apply List.Sublist.cons))) rfl ?hy128 ?_
            case hy128 => exact Yl.move rfl rfl
            refine' TA.y (i := 16) #[true, true, true, true, true, true, true, true, true, true, true, true, false, true, true, true, true, false, false, false, false, false, false, false, false, false, false] rfl rfl rfl (by kernel_rfl) (fun _ _ _ h => h) (fun _ h => by exact Hp.sub h (by repeat (first | exact List.Sublist.refl _ | apply List.Sublist.cons))) rfl ?hy129 ?_
            case hy129 => exact Yl.move rfl rfl
            refine' TA.y (i := 17) #[true, true, true, true, true, true, true, true, true, true, true, true, false, true, true, true, true, true, false, false, false, false, false, false, false, false, false] rfl rfl rfl (by kernel_rfl) (fun _ _ _ h => h) (fun _ h => by exact Hp.sub h (by repeat (first | exact List.Sublist.refl _ | apply List.Sublist.cons))) rfl ?hy130 ?_
            case hy130 => exact Yl.idxS (k := 5) (ad' := ⟨bb, oo + i * 5, none⟩) rfl rfl rfl Try.underlying30 (by kernel_rfl) (by omega) (by omega) (by simp [Addr.at_])
            refine' TA.y (i := 18) #[true, true, true, true, true, true, true, true, true, true, true, true, false, true, true, true, true, true, true, false, false, false, false, false, false, false, false] rfl rfl rfl (by kernel_rfl) (fun _ _ _ h => h) (fun _ h => by exact Hp.sub h (by repeat (first | exact List.Sublist.refl _ | apply List.Sublist.cons))) rfl ?hy131 ?_
            case hy131 => first | exact Yl.field0 (k := 0) 1 rfl rfl Try.underlying37 rfl (by kernel_rfl) rfl | exact Yl.field (k := 0) 1 rfl rfl Try.underlying37 rfl (by kernel_rfl) rfl
            refine' TA.y (i := 19) #[true, true, true, true, true, true, true, true, true, true, true, true, false, true, true, true, true, true, true, true, false, false, false, false, false, false, false] rfl rfl rfl (by kernel_rfl) (fun _ _ _ h => h) (fun _ h => by exact Hp.sub h (by repeat (first | exact List.Sublist.refl _ | apply List.Sublist.cons))) rfl ?hy132 ?_
            case hy132 => exact Yl.load rfl rfl (by kernel_rfl) (Sl.cellAt hS (Open.at37_1 l i hlt) (fun _ => id) (by omega))
            refine' TA.y (i := 20) #[true, true, true, true, true, true, true, true, true, true, true, true, false, true, true, true, true, true, true, true, true, false, false, false, false, false, false] rfl rfl rfl (by kernel_rfl) (fun _ _ _ h => h) (fun _ h => by exact Hp.sub h (by repeat (first | exact List.Sublist.refl _ | apply List.Sublist.cons))) rfl ?hy133 ?_
            case hy133 => exact Yl.move rfl rfl
            refine' TA.y (i := 21) #[true, true, true, true, true, true, true, true, true, true, true, true, false, true, true, true, true, true, true, true, true, true, false, false, false, false, false] rfl rfl rfl (by kernel_rfl) (fun _ _ _ h => h) (fun _ h => by exact Hp.sub h (by repeat (first | exact List.Sublist.refl _ | apply List.Sublist.cons))) rfl ?hy134 ?_
            case hy134 => exact Yl.move rfl rfl
            refine' TA.y (i := 22) #[true, true, true, true, true, true, true, true, true, true, true, true, false, true, true, true, true, true, true, true, true, true, true, false, false, false, false] rfl rfl rfl (by kernel_rfl) (fun _ _ _ h => h) (fun _ h => by exact Hp.sub h (by repeat (first | exact List.Sublist.refl _ | apply List.Sublist.cons))) rfl ?hy135 ?_
            case hy135 => exact Yl.idxS (k := 5) (ad' := ⟨bb, oo + i * 5, none⟩) rfl rfl rfl Try.underlying30 (by kernel_rfl) (by omega) (by omega) (by simp [Addr.at_])
            refine' TA.y (i := 23) #[true, true, true, true, true, true, true, true, true, true, true, true, false, true, true, true, true, true, true, true, true, true, true, true, false, false, false] rfl rfl rfl (by kernel_rfl) (fun _ _ _ h => h) (fun _ h => by exact Hp.sub h (by repeat (first | exact List.Sublist.refl _ | apply List.Sublist.cons))) rfl ?hy136 ?_
            case hy136 => first | exact Yl.field0 (k := 0) 4 rfl rfl Try.underlying37 rfl (by kernel_rfl) rfl | exact Yl.field (k := 0) 4 rfl rfl Try.underlying37 rfl (by kernel_rfl) rfl
            refine' TA.y (i := 24) #[true, true, true, true, true, true, true, true, true, true, true, true, false, true, true, true, true, true, true, true, true, true, true, true, true, false, false] rfl rfl rfl (by kernel_rfl) (fun _ _ _ h => h) (fun _ h => by exact Hp.sub h (by repeat (first | exact List.Sublist.refl _ | apply List.Sublist.cons))) rfl ?hy137 ?_
            case hy137 => exact Yl.load rfl rfl (by kernel_rfl) (Sl.cellAt hS (Open.at37_4 l i hlt) (fun _ => id) (by omega))
            refine' TA.c (i := 12) #[true, true, true, true, true, true, true, true, true, true, true, true, true, true, true, true, true, true, true, true, true, true, true, true, true, false, false] rfl rfl rfl (by kernel_rfl) (by decide) rfl ?hy138 ?hz138 ?_
            case hy138 => exact Yc.call rfl Try.func20 (by kernel_rfl) rfl rfl (Hp.turnB mem2 foc2 (fun w hw => lo_came f h X hXb.1 hXb.2 (l[i]'hlt).f1 (l[i]'hlt).f4 hwr hf2 hh2 w hw))
            case hz138 => exact (fun _ _ h => by exact Hp.sub h (by repeat (first | exact List.Sublist.refl _ | apply List.Sublist.cons)))
            intro _
            refine' TA.c (i := 25) #[true, true, true, true, true, true, true, true, true, true, true, true, true, true, true, true, true, true, true, true, true, true, true, true, true, true, false] rfl rfl rfl (by kernel_rfl) (by decide) rfl ?hy139 ?hz139 ?_
            case hy139 => exact Yc.call rfl Try.func21 (by kernel_rfl) rfl rfl (Hp.turn1 mem1 foc1 (ref_came p c d f h X hXb.1 hXb.2 (l[i]'hlt).f1 (l[i]'hlt).f4 hf2 hh2))
            case hz139 => exact (fun _ _ h => by exact Hp.sub h (by repeat (first | exact List.Sublist.refl _ | apply List.Sublist.cons)))
            intro _
            refine' TA.y (i := 26) #[true, true, true, true, true, true, true, true, true, true, true, true, true, true, true, true, true, true, true, true, true, true, true, true, true, true, true] rfl rfl rfl (by kernel_rfl) (fun _ _ _ h => h) (fun _ h => by exact Hp.sub h (by repeat (first | exact List.Sublist.refl _ | apply List.Sublist.cons))) rfl ?hy140 ?_
            case hy140 => exact Yl.bin rfl rfl rfl (Bin.neqB _ _ _ (by kernel_rfl))
            refine TA.done (by kernel_rfl) ?_
            refine TE.next ?_
            refine TC.no rfl (by first | (simp; done) | simp) ?_
            refine TC.skip ?_
            refine TE.inNormal ?_
            refine TE.next ?_
            refine TC.region ?_
            refine' TL.y rfl rfl rfl ?hy141 ?_
            case hy141 => exact Yl.move rfl rfl
            refine' TL.y rfl rfl rfl ?hy142 ?_
            case hy142 => first | (refine Yl.val (Yl.bin rfl rfl rfl (Bin.add _ _ _ _)) (congrArg (Value.int .i64) (i64in ?_ ?_)) <;> omega) | exact Yl.bin rfl rfl rfl (Bin.add _ _ _ _)
            refine' TL.y rfl rfl rfl ?hy143 ?_
            case hy143 => exact Yl.assign rfl rfl
            refine TL.nil ?_
            refine TE.round (i + 1, v, f, (if cameB f X (l[i]'hlt).f4 then cameH h (l[i]'hlt).f1 else h), xs) ?hF144 ?hlt144 ?hs144 ?hm144
            case hF144 => exact ⟨hlt, fun k => by have := hf k; dsimp only; omega, fun k => by have := hh k; have := cameH_bd h (l[i]'hlt).f1 i hh k; dsimp only; split <;> omega, by dsimp only; omega, hxs⟩
            case hlt144 => dsimp only; omega
            case hs144 => exact ⟨rfl, rfl, rfl, rfl, rfl, rfl, trivial⟩
            case hm144 => exact fun _ h => h
        · skip
          refine TL.skip rfl rfl rfl ?_
          refine TL.skip rfl rfl rfl ?_
          refine TL.skip rfl rfl rfl ?_
          refine TL.skip rfl rfl rfl ?_
          refine TL.skip rfl rfl rfl ?_
          refine TL.skip rfl rfl rfl ?_
          refine TL.skip rfl rfl rfl ?_
          refine TL.skip rfl rfl rfl ?_
          refine' TL.y rfl rfl rfl ?hy145 ?_
          case hy145 => exact Yl.pickF rfl rfl rfl
          refine TL.nil ?_
          refine TE.next ?_
          refine TC.no rfl rfl ?_
          refine TC.skip ?_
          refine TE.next ?_
          refine TC.seq ?_
          refine TC.draw (k := 27) (Hp W (fun _ => False) []) [] #[false, false, false, false, false, false, false, false, false, false, false, false, false, false, false, false, false, false, false, false, false, false, false, false, false, false, false] (by kernel_rfl) rfl rfl (fun _ h => h.drew) (fun _ h => h.sub (List.nil_sublist _)) ?_
          refine' TA.y (i := 0) #[true, false, false, false, false, false, false, false, false, false, false, false, false, false, false, false, false, false, false, false, false, false, false, false, false, false, false] rfl rfl rfl (by kernel_rfl) (fun _ _ _ h => h) (fun _ h => by exact Hp.sub h (by repeat (first | exact List.Sublist.refl _ | apply List.Sublist.cons))) rfl ?hy146 ?_
          case hy146 => exact Yl.move rfl rfl
          refine' TA.y (i := 1) #[true, true, false, false, false, false, false, false, false, false, false, false, false, false, false, false, false, false, false, false, false, false, false, false, false, false, false] rfl rfl rfl (by kernel_rfl) (fun _ _ _ h => h) (fun _ h => by exact Hp.sub h (by repeat (first | exact List.Sublist.refl _ | apply List.Sublist.cons))) rfl ?hy147 ?_
          case hy147 => exact Yl.move rfl rfl
          refine' TA.y (i := 2) #[true, true, true, false, false, false, false, false, false, false, false, false, false, false, false, false, false, false, false, false, false, false, false, false, false, false, false] rfl rfl rfl (by kernel_rfl) (fun _ _ _ h => h) (fun _ h => by exact Hp.sub h (by repeat (first | exact List.Sublist.refl _ | apply List.Sublist.cons))) rfl ?hy148 ?_
          case hy148 => exact Yl.move rfl rfl
          refine' TA.y (i := 3) #[true, true, true, true, false, false, false, false, false, false, false, false, false, false, false, false, false, false, false, false, false, false, false, false, false, false, false] rfl rfl rfl (by kernel_rfl) (fun _ _ _ h => h) (fun _ h => by exact Hp.sub h (by repeat (first | exact List.Sublist.refl _ | apply List.Sublist.cons))) rfl ?hy149 ?_
          case hy149 => exact Yl.move rfl rfl
          refine' TA.y (i := 4) #[true, true, true, true, true, false, false, false, false, false, false, false, false, false, false, false, false, false, false, false, false, false, false, false, false, false, false] rfl rfl rfl (by kernel_rfl) (fun _ _ _ h => h) (fun _ h => by exact Hp.sub h (by repeat (first | exact List.Sublist.refl _ | apply List.Sublist.cons))) rfl ?hy150 ?_
          case hy150 => exact Yl.idxS (k := 5) (ad' := ⟨bb, oo + i * 5, none⟩) rfl rfl rfl Try.underlying30 (by kernel_rfl) (by omega) (by omega) (by simp [Addr.at_])
          refine' TA.y (i := 5) #[true, true, true, true, true, true, false, false, false, false, false, false, false, false, false, false, false, false, false, false, false, false, false, false, false, false, false] rfl rfl rfl (by kernel_rfl) (fun _ _ _ h => h) (fun _ h => by exact Hp.sub h (by repeat (first | exact List.Sublist.refl _ | apply List.Sublist.cons))) rfl ?hy151 ?_
          case hy151 => first | exact Yl.field0 (k := 0) 1 rfl rfl Try.underlying37 rfl (by kernel_rfl) rfl | exact Yl.field (k := 0) 1 rfl rfl Try.underlying37 rfl (by kernel_rfl) rfl
          refine' TA.y (i := 6) #[true, true, true, true, true, true, true, false, false, false, false, false, false, false, false, false, false, false, false, false, false, false, false, false, false, false, false] rfl rfl rfl (by kernel_rfl) (fun _ _ _ h => h) (fun _ h => by exact Hp.sub h (by repeat (first | exact List.Sublist.refl _ | apply List.Sublist.cons))) rfl ?hy152 ?_
          case hy152 => exact Yl.load rfl rfl (by kernel_rfl) (Sl.cellAt hS (Open.at37_1 l i hlt) (fun _ => id) (by omega))
          refine' TA.y (i := 7) #[true, true, true, true, true, true, true, true, false, false, false, false, false, false, false, false, false, false, false, false, false, false, false, false, false, false, false] rfl rfl rfl (by kernel_rfl) (fun _ _ _ h => h) (fun _ h => by exact Hp.sub h (by repeat (first | exact List.Sublist.refl _ | apply List.Sublist.cons))) rfl ?hy153 ?_
          case hy153 => exact Yl.move rfl rfl
          refine' TA.y (i := 8) #[true, true, true, true, true, true, true, true, true, false, false, false, false, false, false, false, false, false, false, false, false, false, false, false, false, false, false] rfl rfl rfl (by kernel_rfl) (fun _ _ _ h => h) (fun _ h => by exact Hp.sub h (by repeat (first | exact List.Sublist.refl _ | apply List.Sublist.cons))) rfl ?hy154 ?_
          case hy154 => exact Yl.move rfl rfl
          refine' TA.y (i := 9) #[true, true, true, true, true, true, true, true, true, true, false, false, false, false, false, false, false, false, false, false, false, false, false, false, false, false, false] rfl rfl rfl (by kernel_rfl) (fun _ _ _ h => h) (fun _ h => by exact Hp.sub h (by repeat (first | exact List.Sublist.refl _ | apply List.Sublist.cons))) rfl ?hy155 ?_
          case hy155 => exact Yl.idxS (k := 5) (ad' := ⟨bb, oo + i * 5, none⟩) rfl rfl rfl Try.underlying30 (by kernel_rfl) (by omega) (by omega) (by simp [Addr.at_])
          refine' TA.y (i := 10) #[true, true, true, true, true, true, true, true, true, true, true, false, false, false, false, false, false, false, false, false, false, false, false, false, false, false, false] rfl rfl rfl (by kernel_rfl) (fun _ _ _ h => h) (fun _ h => by exact Hp.sub h (by repeat (first | exact List.Sublist.refl _ | apply List.Sublist.cons))) rfl ?hy156 ?_
          case hy156 => first | exact Yl.field0 (k := 0) 4 rfl rfl Try.underlying37 rfl (by kernel_rfl) rfl | exact Yl.field (k := 0) 4 rfl rfl Try.underlying37 rfl (by kernel_rfl) rfl
          refine' TA.y (i := 11) #[true, true, true, true, true, true, true, true, true, true, true, true, false, false, false, false, false, false, false, false, false, false, false, false, false, false, false] rfl rfl rfl (by kernel_rfl) (fun _ _ _ h => h) (fun _ h => by exact Hp.sub h (by repeat (first | exact List.Sublist.refl _ | apply List.Sublist.cons))) rfl ?hy157 ?_
          case hy157 => exact Yl.load rfl rfl (by kernel_rfl) (Sl.cellAt hS (Open.at37_4 l i hlt) (fun _ => id) (by omega))
          refine' TA.y (i := 13) #[true, true, true, true, true, true, true, true, true, true, true, true, false, true, false, false, false, false, false, false, false, false, false, false, false, false, false] rfl rfl rfl (by kernel_rfl) (fun _ _ _ h => h) (fun _ h => by exact Hp.sub h (by repeat (first | exact List.Sublist.refl _ | apply List.Sublist.cons))) rfl ?hy158 ?_
          case hy158 => exact Yl.move rfl rfl
          refine' TA.y (i := 14) #[true, true, true, true, true, true, true, true, true, true, true, true, false, true, true, false, false, false, false, false, false, false, false, false, false, false, false] rfl rfl rfl (by kernel_rfl) (fun _ _ _ h => h) (fun _ h => by exact Hp.sub h (by repeat (first | exact List.Sublist.refl _ | apply List.Sublist.cons))) rfl ?hy159 ?_
          case hy159 => exact Yl.move rfl rfl
          refine' TA.y (i := 15) #[true, true, true, true, true, true, true, true, true, true, true, true, false, true, true, true, false, false, false, false, false, false, false, false, false, false, false] rfl rfl rfl (by kernel_rfl) (fun _ _ _ h => h) (fun _ h => by exact Hp.sub h (by repeat (first | exact List.Sublist.refl _ | apply List.Sublist.cons))) rfl ?hy160 ?_
          case hy160 => exact Yl.move rfl rfl
          refine' TA.y (i := 16) #[true, true, true, true, true, true, true, true, true, true, true, true, false, true, true, true, true, false, false, false, false, false, false, false, false, false, false] rfl rfl rfl (by kernel_rfl) (fun _ _ _ h => h) (fun _ h => by exact Hp.sub h (by repeat (first | exact List.Sublist.refl _ | apply List.Sublist.cons))) rfl ?hy161 ?_
          case hy161 => exact Yl.move rfl rfl
          refine' TA.y (i := 17) #[true, true, true, true, true, true, true, true, true, true, true, true, false, true, true, true, true, true, false, false, false, false, false, false, false, false, false] rfl rfl rfl (by kernel_rfl) (fun _ _ _ h => h) (fun _ h => by exact Hp.sub h (by repeat (first | exact List.Sublist.refl _ | apply List.Sublist.cons))) rfl ?hy162 ?_
          case hy162 => exact Yl.idxS (k := 5) (ad' := ⟨bb, oo + i * 5, none⟩) rfl rfl rfl Try.underlying30 (by kernel_rfl) (by omega) (by omega) (by simp [Addr.at_])
          refine' TA.y (i := 18) #[true, true, true, true, true, true, true, true, true, true, true, true, false, true, true, true, true, true, true, false, false, false, false, false, false, false, false] rfl rfl rfl (by kernel_rfl) (fun _ _ _ h => h) (fun _ h => by exact Hp.sub h (by repeat (first | exact List.Sublist.refl _ | apply List.Sublist.cons))) rfl ?hy163 ?_
          case hy163 => first | exact Yl.field0 (k := 0) 1 rfl rfl Try.underlying37 rfl (by kernel_rfl) rfl | exact Yl.field (k := 0) 1 rfl rfl Try.underlying37 rfl (by kernel_rfl) rfl
          refine' TA.y (i := 19) #[true, true, true, true, true, true, true, true, true, true, true, true, false, true, true, true, true, true, true, true, false, false, false, false, false, false, false] rfl rfl rfl (by kernel_rfl) (fun _ _ _ h => h) (fun _ h => by exact Hp.sub h (by repeat (first | exact List.Sublist.refl _ | apply List.Sublist.cons))) rfl ?hy164 ?_
          case hy164 => exact Yl.load rfl rfl (by kernel_rfl) (Sl.cellAt hS (Open.at37_1 l i hlt) (fun _ => id) (by omega))
          refine' TA.y (i := 20) #[true, true, true, true, true, true, true, true, true, true, true, true, false, true, true, true, true, true, true, true, true, false, false, false, false, false, false] rfl rfl rfl (by kernel_rfl) (fun _ _ _ h => h) (fun _ h => by exact Hp.sub h (by repeat (first | exact List.Sublist.refl _ | apply List.Sublist.cons))) rfl ?hy165 ?_
          case hy165 => exact Yl.move rfl rfl
          refine' TA.y (i := 21) #[true, true, true, true, true, true, true, true, true, true, true, true, false, true, true, true, true, true, true, true, true, true, false, false, false, false, false] rfl rfl rfl (by kernel_rfl) (fun _ _ _ h => h) (fun _ h => by exact Hp.sub h (by repeat (first | exact List.Sublist.refl _ | apply List.Sublist.cons))) rfl ?hy166 ?_
          case hy166 => exact Yl.move rfl rfl
          refine' TA.y (i := 22) #[true, true, true, true, true, true, true, true, true, true, true, true, false, true, true, true, true, true, true, true, true, true, true, false, false, false, false] rfl rfl rfl (by kernel_rfl) (fun _ _ _ h => h) (fun _ h => by exact Hp.sub h (by repeat (first | exact List.Sublist.refl _ | apply List.Sublist.cons))) rfl ?hy167 ?_
          case hy167 => exact Yl.idxS (k := 5) (ad' := ⟨bb, oo + i * 5, none⟩) rfl rfl rfl Try.underlying30 (by kernel_rfl) (by omega) (by omega) (by simp [Addr.at_])
          refine' TA.y (i := 23) #[true, true, true, true, true, true, true, true, true, true, true, true, false, true, true, true, true, true, true, true, true, true, true, true, false, false, false] rfl rfl rfl (by kernel_rfl) (fun _ _ _ h => h) (fun _ h => by exact Hp.sub h (by repeat (first | exact List.Sublist.refl _ | apply List.Sublist.cons))) rfl ?hy168 ?_
          case hy168 => first | exact Yl.field0 (k := 0) 4 rfl rfl Try.underlying37 rfl (by kernel_rfl) rfl | exact Yl.field (k := 0) 4 rfl rfl Try.underlying37 rfl (by kernel_rfl) rfl
          refine' TA.y (i := 24) #[true, true, true, true, true, true, true, true, true, true, true, true, false, true, true, true, true, true, true, true, true, true, true, true, true, false, false] rfl rfl rfl (by kernel_rfl) (fun _ _ _ h => h) (fun _ h => by exact Hp.sub h (by repeat (first | exact List.Sublist.refl _ | apply List.Sublist.cons))) rfl ?hy169 ?_
          case hy169 => exact Yl.load rfl rfl (by kernel_rfl) (Sl.cellAt hS (Open.at37_4 l i hlt) (fun _ => id) (by omega))
          refine' TA.c (i := 12) #[true, true, true, true, true, true, true, true, true, true, true, true, true, true, true, true, true, true, true, true, true, true, true, true, true, false, false] rfl rfl rfl (by kernel_rfl) (by decide) rfl ?hy170 ?hz170 ?_
          case hy170 => exact Yc.call rfl Try.func20 (by kernel_rfl) rfl rfl (Hp.turnB mem2 foc2 (fun w hw => lo_came f h X hXb.1 hXb.2 (l[i]'hlt).f1 (l[i]'hlt).f4 hwr hf2 hh2 w hw))
          case hz170 => exact (fun _ _ h => by exact Hp.sub h (by repeat (first | exact List.Sublist.refl _ | apply List.Sublist.cons)))
          intro _
          refine' TA.c (i := 25) #[true, true, true, true, true, true, true, true, true, true, true, true, true, true, true, true, true, true, true, true, true, true, true, true, true, true, false] rfl rfl rfl (by kernel_rfl) (by decide) rfl ?hy171 ?hz171 ?_
          case hy171 => exact Yc.call rfl Try.func21 (by kernel_rfl) rfl rfl (Hp.turn1 mem1 foc1 (ref_came p c d f h X hXb.1 hXb.2 (l[i]'hlt).f1 (l[i]'hlt).f4 hf2 hh2))
          case hz171 => exact (fun _ _ h => by exact Hp.sub h (by repeat (first | exact List.Sublist.refl _ | apply List.Sublist.cons)))
          intro _
          refine' TA.y (i := 26) #[true, true, true, true, true, true, true, true, true, true, true, true, true, true, true, true, true, true, true, true, true, true, true, true, true, true, true] rfl rfl rfl (by kernel_rfl) (fun _ _ _ h => h) (fun _ h => by exact Hp.sub h (by repeat (first | exact List.Sublist.refl _ | apply List.Sublist.cons))) rfl ?hy172 ?_
          case hy172 => exact Yl.bin rfl rfl rfl (Bin.neqB _ _ _ (by kernel_rfl))
          refine TA.done (by kernel_rfl) ?_
          refine TE.next ?_
          refine TC.no rfl (by first | (simp; done) | simp) ?_
          refine TC.skip ?_
          refine TE.inNormal ?_
          refine TE.next ?_
          refine TC.region ?_
          refine' TL.y rfl rfl rfl ?hy173 ?_
          case hy173 => exact Yl.move rfl rfl
          refine' TL.y rfl rfl rfl ?hy174 ?_
          case hy174 => first | (refine Yl.val (Yl.bin rfl rfl rfl (Bin.add _ _ _ _)) (congrArg (Value.int .i64) (i64in ?_ ?_)) <;> omega) | exact Yl.bin rfl rfl rfl (Bin.add _ _ _ _)
          refine' TL.y rfl rfl rfl ?hy175 ?_
          case hy175 => exact Yl.assign rfl rfl
          refine TL.nil ?_
          refine TE.round (i + 1, v, f, (if cameB f X (l[i]'hlt).f4 then cameH h (l[i]'hlt).f1 else h), xs) ?hF176 ?hlt176 ?hs176 ?hm176
          case hF176 => exact ⟨hlt, fun k => by have := hf k; dsimp only; omega, fun k => by have := hh k; have := cameH_bd h (l[i]'hlt).f1 i hh k; dsimp only; split <;> omega, by dsimp only; omega, hxs⟩
          case hlt176 => dsimp only; omega
          case hs176 => exact ⟨rfl, rfl, rfl, rfl, rfl, rfl, trivial⟩
          case hm176 => exact fun _ h => h
    · skip
      refine TC.exit ?_
      refine TE.thenExit ?_
      refine TE.thenExit ?_
      refine TE.inHere ?_
      refine TE.next ?_
      refine TC.seq ?_
      refine TC.seq ?_
      refine TC.region ?_
      refine' TL.y rfl rfl rfl ?hy177 ?_
      case hy177 => exact Yl.assign rfl rfl
      refine TL.nil ?_
      refine TE.next ?_
      refine TC.block ?_
      refine TC.loop (σ := Nat) (fun j => [(3, .bool true), (4, .pointer (some ⟨b4, 0, none⟩)), (5, .pointer (some ⟨p, 0, none⟩)), (10, .int .i64 (j : Int))]) (fun j => Hp W (fun _ => False) [blk c (.cells (rowC f) 3 (0, 0)), blk d (.cells (rowC h) 3 (0, 0)), blk p (twoO c d), ownR 22 1 v xs.length (xs.map (Value.int .u64)), blk b4 (.cells (logC (f) (h)) 57 (0, 0))]) (fun j => j ≤ 64) (fun j => 64 - j) 0 ?hF178 ?hs178 ?hm178 ?round178
      case hF178 => decide
      case hs178 => exact ⟨rfl, rfl, rfl, rfl, trivial⟩
      case hm178 => exact fun w h => ref_open h.swap
      case round178 =>
        intro j hj
        refine TC.seq ?_
        refine TC.seq ?_
        refine TC.region ?_
        refine' TL.y rfl rfl rfl ?hy179 ?_
        case hy179 => exact Yl.move rfl rfl
        refine' TL.y rfl rfl rfl ?hy180 ?_
        case hy180 => exact Yl.bin rfl rfl rfl (Bin.lss _ _ _ _)
        refine TL.nil ?_
        refine TE.next ?_
        refine TC.cond rfl (fun hs109 => ?_) (fun hs109 => ?_)
        · skip
          have hlj : j < 64 := by have := of_decide_eq_true hs109; omega
          refine TC.skip ?_
          refine TE.next ?_
          refine TC.seq ?_
          refine TC.block ?_
          refine TC.seq ?_
          refine TC.draw (k := 24) _ [] #[false, false, false, false, false, false, false, false, false, false, false, false, false, false, false, false, false, false, false, false, false, false, false, false] (by kernel_rfl) rfl rfl (fun _ h => h.drew) (fun _ h => h) ?_
          refine' TA.y (i := 0) #[true, false, false, false, false, false, false, false, false, false, false, false, false, false, false, false, false, false, false, false, false, false, false, false] rfl rfl rfl (by kernel_rfl) (fun _ _ _ h => h) (fun _ h => by exact Hp.sub h (by repeat (first | exact List.Sublist.refl _ | apply List.Sublist.cons))) rfl ?hy181 ?_
          case hy181 => exact Yl.move rfl rfl
          refine' TA.y (i := 1) #[true, true, false, false, false, false, false, false, false, false, false, false, false, false, false, false, false, false, false, false, false, false, false, false] rfl rfl rfl (by kernel_rfl) (fun _ _ _ h => h) (fun _ h => by exact Hp.sub h (by repeat (first | exact List.Sublist.refl _ | apply List.Sublist.cons))) rfl ?hy182 ?_
          case hy182 => exact Yl.move rfl rfl
          refine' TA.y (i := 3) #[true, true, false, true, false, false, false, false, false, false, false, false, false, false, false, false, false, false, false, false, false, false, false, false] rfl rfl rfl (by kernel_rfl) (fun _ _ _ h => h) (fun _ h => by exact Hp.sub h (by repeat (first | exact List.Sublist.refl _ | apply List.Sublist.cons))) rfl ?hy183 ?_
          case hy183 => exact Yl.move rfl rfl
          refine' TA.y (i := 4) #[true, true, false, true, true, false, false, false, false, false, false, false, false, false, false, false, false, false, false, false, false, false, false, false] rfl rfl rfl (by kernel_rfl) (fun _ _ _ h => h) (fun _ h => by exact Hp.sub h (by repeat (first | exact List.Sublist.refl _ | apply List.Sublist.cons))) rfl ?hy184 ?_
          case hy184 => exact Yl.nilCheck rfl rfl
          refine' TA.y (i := 5) #[true, true, false, true, true, true, false, false, false, false, false, false, false, false, false, false, false, false, false, false, false, false, false, false] rfl rfl rfl (by kernel_rfl) (fun _ _ _ h => h) (fun _ h => by exact Hp.sub h (by repeat (first | exact List.Sublist.refl _ | apply List.Sublist.cons))) rfl ?hy185 ?_
          case hy185 => first | exact Yl.field0 (k := 0) 0 rfl rfl Try.underlying42 rfl (by kernel_rfl) rfl | exact Yl.field (k := 0) 0 rfl rfl Try.underlying42 rfl (by kernel_rfl) rfl
          refine' TA.y (i := 6) #[true, true, false, true, true, true, true, false, false, false, false, false, false, false, false, false, false, false, false, false, false, false, false, false] rfl rfl rfl (by kernel_rfl) (fun _ _ _ h => h) (fun _ h => by exact Hp.sub h (by repeat (first | exact List.Sublist.refl _ | apply List.Sublist.cons))) rfl ?hy186 ?_
          case hy186 => exact Yl.load rfl rfl (by kernel_rfl) (Hp.cell mem2 rfl)
          refine' TA.y (i := 7) #[true, true, false, true, true, true, true, true, false, false, false, false, false, false, false, false, false, false, false, false, false, false, false, false] rfl rfl rfl (by kernel_rfl) (fun _ _ _ h => h) (fun _ h => by exact Hp.sub h (by repeat (first | exact List.Sublist.refl _ | apply List.Sublist.cons))) rfl ?hy187 ?_
          case hy187 => exact Yl.move rfl rfl
          refine' TA.y (i := 8) #[true, true, false, true, true, true, true, true, true, false, false, false, false, false, false, false, false, false, false, false, false, false, false, false] rfl rfl rfl (by kernel_rfl) (fun _ _ _ h => h) (fun _ h => by exact Hp.sub h (by repeat (first | exact List.Sublist.refl _ | apply List.Sublist.cons))) rfl ?hy188 ?_
          case hy188 => exact Yl.idxS (k := 1) (ad' := ⟨c, j, none⟩) rfl rfl rfl Try.underlying40 (by kernel_rfl) (by omega) (by simp; omega) (by simp [Addr.at_])
          refine' TA.y (i := 9) #[true, true, false, true, true, true, true, true, true, true, false, false, false, false, false, false, false, false, false, false, false, false, false, false] rfl rfl rfl (by kernel_rfl) (fun _ _ _ h => h) (fun _ h => by exact Hp.sub h (by repeat (first | exact List.Sublist.refl _ | apply List.Sublist.cons))) rfl ?hy189 ?_
          case hy189 => exact Yl.load rfl rfl (by kernel_rfl) (Hp.cell mem0 (rowC_get _ _ hlj))
          refine' TA.c (i := 2) #[true, true, true, true, true, true, true, true, true, true, false, false, false, false, false, false, false, false, false, false, false, false, false, false] rfl rfl rfl (by kernel_rfl) (by decide) rfl ?hy190 ?hz190 ?_
          case hy190 => exact Yc.call rfl Try.func22 (by kernel_rfl) rfl rfl (Hp.readB mem4 (fun w hw => q_clockj f h j hlj w hw))
          case hz190 => exact (fun _ _ h => by exact Hp.sub h (by repeat (first | exact List.Sublist.refl _ | apply List.Sublist.cons)))
          intro _
          refine' TA.y (i := 10) #[true, true, true, true, true, true, true, true, true, true, true, false, false, false, false, false, false, false, false, false, false, false, false, false] rfl rfl rfl (by kernel_rfl) (fun _ _ _ h => h) (fun _ h => by exact Hp.sub h (by repeat (first | exact List.Sublist.refl _ | apply List.Sublist.cons))) rfl ?hy191 ?_
          case hy191 => exact Yl.bin rfl rfl rfl (Bin.neq _ _ _ _)
          refine' TA.y (i := 11) #[true, true, true, true, true, true, true, true, true, true, true, true, false, false, false, false, false, false, false, false, false, false, false, false] rfl rfl rfl (by kernel_rfl) (fun _ _ _ h => h) (fun _ h => by exact Hp.sub h (by repeat (first | exact List.Sublist.refl _ | apply List.Sublist.cons))) rfl ?hy192 ?_
          case hy192 => exact Yl.move rfl rfl
          refine TA.re (i := 123) (v' := .bool false) rfl (congrArg Value.bool (by first | (simp; done) | simp)) ?_
          refine' TA.y (i := 12) #[true, true, true, true, true, true, true, true, true, true, true, true, true, false, false, false, false, false, false, false, false, false, false, false] rfl rfl rfl (by kernel_rfl) (fun _ _ _ h => h) (fun _ h => by exact Hp.sub h (by repeat (first | exact List.Sublist.refl _ | apply List.Sublist.cons))) rfl ?hy193 ?_
          case hy193 => exact Yl.move rfl rfl
          refine' TA.y (i := 13) #[true, true, true, true, true, true, true, true, true, true, true, true, true, true, false, false, false, false, false, false, false, false, false, false] rfl rfl rfl (by kernel_rfl) (fun _ _ _ h => h) (fun _ h => by exact Hp.sub h (by repeat (first | exact List.Sublist.refl _ | apply List.Sublist.cons))) rfl ?hy194 ?_
          case hy194 => exact Yl.move rfl rfl
          refine' TA.y (i := 15) #[true, true, true, true, true, true, true, true, true, true, true, true, true, true, false, true, false, false, false, false, false, false, false, false] rfl rfl rfl (by kernel_rfl) (fun _ _ _ h => h) (fun _ h => by exact Hp.sub h (by repeat (first | exact List.Sublist.refl _ | apply List.Sublist.cons))) rfl ?hy195 ?_
          case hy195 => exact Yl.move rfl rfl
          refine' TA.y (i := 16) #[true, true, true, true, true, true, true, true, true, true, true, true, true, true, false, true, true, false, false, false, false, false, false, false] rfl rfl rfl (by kernel_rfl) (fun _ _ _ h => h) (fun _ h => by exact Hp.sub h (by repeat (first | exact List.Sublist.refl _ | apply List.Sublist.cons))) rfl ?hy196 ?_
          case hy196 => exact Yl.nilCheck rfl rfl
          refine' TA.y (i := 17) #[true, true, true, true, true, true, true, true, true, true, true, true, true, true, false, true, true, true, false, false, false, false, false, false] rfl rfl rfl (by kernel_rfl) (fun _ _ _ h => h) (fun _ h => by exact Hp.sub h (by repeat (first | exact List.Sublist.refl _ | apply List.Sublist.cons))) rfl ?hy197 ?_
          case hy197 => first | exact Yl.field0 (k := 0) 1 rfl rfl Try.underlying42 rfl (by kernel_rfl) rfl | exact Yl.field (k := 0) 1 rfl rfl Try.underlying42 rfl (by kernel_rfl) rfl
          refine' TA.y (i := 18) #[true, true, true, true, true, true, true, true, true, true, true, true, true, true, false, true, true, true, true, false, false, false, false, false] rfl rfl rfl (by kernel_rfl) (fun _ _ _ h => h) (fun _ h => by exact Hp.sub h (by repeat (first | exact List.Sublist.refl _ | apply List.Sublist.cons))) rfl ?hy198 ?_
          case hy198 => exact Yl.load rfl rfl (by kernel_rfl) (Hp.cell mem2 rfl)
          refine' TA.y (i := 19) #[true, true, true, true, true, true, true, true, true, true, true, true, true, true, false, true, true, true, true, true, false, false, false, false] rfl rfl rfl (by kernel_rfl) (fun _ _ _ h => h) (fun _ h => by exact Hp.sub h (by repeat (first | exact List.Sublist.refl _ | apply List.Sublist.cons))) rfl ?hy199 ?_
          case hy199 => exact Yl.move rfl rfl
          refine' TA.y (i := 20) #[true, true, true, true, true, true, true, true, true, true, true, true, true, true, false, true, true, true, true, true, true, false, false, false] rfl rfl rfl (by kernel_rfl) (fun _ _ _ h => h) (fun _ h => by exact Hp.sub h (by repeat (first | exact List.Sublist.refl _ | apply List.Sublist.cons))) rfl ?hy200 ?_
          case hy200 => exact Yl.idxS (k := 1) (ad' := ⟨d, j, none⟩) rfl rfl rfl Try.underlying40 (by kernel_rfl) (by omega) (by simp; omega) (by simp [Addr.at_])
          refine' TA.y (i := 21) #[true, true, true, true, true, true, true, true, true, true, true, true, true, true, false, true, true, true, true, true, true, true, false, false] rfl rfl rfl (by kernel_rfl) (fun _ _ _ h => h) (fun _ h => by exact Hp.sub h (by repeat (first | exact List.Sublist.refl _ | apply List.Sublist.cons))) rfl ?hy201 ?_
          case hy201 => exact Yl.load rfl rfl (by kernel_rfl) (Hp.cell mem1 (rowC_get _ _ hlj))
          refine' TA.c (i := 14) #[true, true, true, true, true, true, true, true, true, true, true, true, true, true, true, true, true, true, true, true, true, true, false, false] rfl rfl rfl (by kernel_rfl) (by decide) rfl ?hy202 ?hz202 ?_
          case hy202 => exact Yc.call rfl Try.func23 (by kernel_rfl) rfl rfl (Hp.readB mem4 (fun w hw => q_backj f h j hlj w hw))
          case hz202 => exact (fun _ _ h => by exact Hp.sub h (by repeat (first | exact List.Sublist.refl _ | apply List.Sublist.cons)))
          intro _
          refine' TA.y (i := 22) #[true, true, true, true, true, true, true, true, true, true, true, true, true, true, true, true, true, true, true, true, true, true, true, false] rfl rfl rfl (by kernel_rfl) (fun _ _ _ h => h) (fun _ h => by exact Hp.sub h (by repeat (first | exact List.Sublist.refl _ | apply List.Sublist.cons))) rfl ?hy203 ?_
          case hy203 => exact Yl.bin rfl rfl rfl (Bin.neq _ _ _ _)
          refine' TA.y (i := 23) #[true, true, true, true, true, true, true, true, true, true, true, true, true, true, true, true, true, true, true, true, true, true, true, true] rfl rfl rfl (by kernel_rfl) (fun _ _ _ h => h) (fun _ h => by exact Hp.sub h (by repeat (first | exact List.Sublist.refl _ | apply List.Sublist.cons))) rfl ?hy204 ?_
          case hy204 => exact Yl.pickF rfl rfl rfl
          refine TA.done (by kernel_rfl) ?_
          refine TE.next ?_
          refine TC.no rfl (by first | (simp; done) | simp) ?_
          refine TC.skip ?_
          refine TE.inNormal ?_
          refine TE.next ?_
          refine TC.region ?_
          refine' TL.y rfl rfl rfl ?hy205 ?_
          case hy205 => exact Yl.move rfl rfl
          refine' TL.y rfl rfl rfl ?hy206 ?_
          case hy206 => first | (refine Yl.val (Yl.bin rfl rfl rfl (Bin.add _ _ _ _)) (congrArg (Value.int .i64) (i64in ?_ ?_)) <;> omega) | exact Yl.bin rfl rfl rfl (Bin.add _ _ _ _)
          refine' TL.y rfl rfl rfl ?hy207 ?_
          case hy207 => exact Yl.assign rfl rfl
          refine TL.nil ?_
          refine TE.round (j + 1) ?hF208 ?hlt208 ?hs208 ?hm208
          case hF208 => exact hlj
          case hlt208 => omega
          case hs208 => exact ⟨rfl, rfl, rfl, rfl, trivial⟩
          case hm208 => exact fun _ h => h
        · skip
          refine TC.exit ?_
          refine TE.thenExit ?_
          refine TE.thenExit ?_
          refine TE.inHere ?_
          refine TE.next ?_
          refine TC.seq ?_
          refine TC.region ?_
          refine' TL.y rfl rfl rfl ?hy209 ?_
          case hy209 => exact Yl.move rfl rfl
          refine' TL.y rfl rfl rfl ?hy210 ?_
          case hy210 => exact Yl.move rfl rfl
          refine' TL.y rfl rfl rfl ?hy211 ?_
          case hy211 => exact Yl.move rfl rfl
          refine' TL.c rfl rfl rfl ?hy212 ?_
          case hy212 => exact Yc.call rfl Try.func22 (by kernel_rfl) rfl rfl (Hp.calls (fun w hw => clock_out 64 (by decide) w))
          intro _
          refine' TL.y rfl rfl rfl ?hy213 ?_
          case hy213 => exact Yl.bin rfl rfl rfl (Bin.eql _ _ _ _)
          refine' TL.y rfl rfl rfl ?hy214 ?_
          case hy214 => exact Yl.pickT rfl rfl rfl
          refine' TL.y rfl rfl rfl ?hy215 ?_
          case hy215 => exact Yl.move rfl rfl
          refine TL.re (i := 142) (v' := .bool true) rfl (congrArg Value.bool (by first | (simp; done) | (simp; omega))) ?_
          refine' TL.y rfl rfl rfl ?hy216 ?_
          case hy216 => exact Yl.move rfl rfl
          refine' TL.c rfl rfl rfl ?hy217 ?_
          case hy217 => exact Yc.call rfl Try.func22 (by kernel_rfl) rfl rfl (Hp.calls (fun w hw => clock_out (-1) (by decide) w))
          intro _
          refine' TL.y rfl rfl rfl ?hy218 ?_
          case hy218 => exact Yl.bin rfl rfl rfl (Bin.eql _ _ _ _)
          refine' TL.y rfl rfl rfl ?hy219 ?_
          case hy219 => exact Yl.pickT rfl rfl rfl
          refine' TL.y rfl rfl rfl ?hy220 ?_
          case hy220 => exact Yl.move rfl rfl
          refine TL.re (i := 147) (v' := .bool true) rfl (congrArg Value.bool (by first | (simp; done) | (simp; omega))) ?_
          refine' TL.y rfl rfl rfl ?hy221 ?_
          case hy221 => exact Yl.move rfl rfl
          refine' TL.c rfl rfl rfl ?hy222 ?_
          case hy222 => exact Yc.call rfl Try.func23 (by kernel_rfl) rfl rfl (Hp.calls (fun w hw => back_out 64 (by decide) w))
          intro _
          refine' TL.y rfl rfl rfl ?hy223 ?_
          case hy223 => exact Yl.bin rfl rfl rfl (Bin.eql _ _ _ _)
          refine' TL.y rfl rfl rfl ?hy224 ?_
          case hy224 => exact Yl.pickT rfl rfl rfl
          refine' TL.y rfl rfl rfl ?hy225 ?_
          case hy225 => exact Yl.assign rfl rfl
          refine TL.nil ?_
          refine TE.next ?_
          refine TC.ret ?_
          refine TE.ret1 rfl rfl ?_
          exact fun w h => ⟨by first | rfl | (simp; done) | (simp; omega), h.below⟩
theorem logs_all (W : World) (l : List Open.E37) (A : Option Addr) (cp : Nat) (hS : Sl W A (l.flatMap Open.E37.cells)) (hw : ∀ x ∈ l, Open.wf37 x) : Calls Try.prog 4 #[.slice A l.length cp] W fun e w' => e = .returned (.bool true) ∧ Below W.heap.size W w' := by
  by_cases h0 : 100 < (l.length : Int)
  · exact logs_big W l A cp hS hw h0
  · exact logs_good W l A cp hS hw h0
end Go.Proofs.Ytpkpipkjmlhfaaa.Pure
