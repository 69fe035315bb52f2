/- Sums. -/
import Derived.Test.YthjllhaebanplaaShW
import Derived.Test.YthjllhaebanplaaProg
import Derived.RowKit3
namespace Go.Proofs.Ythjllhaebanplaa.Pk
open Go Go.RowKit Go.Proofs.Ythjllhaebanplaa.HL Go.Proofs.Ythjllhaebanplaa.Ev Go.Proofs.YthjllhaebanplaaW.PrintWords Go.Proofs.ShP
set_option linter.unusedVariables false
set_option linter.unusedSimpArgs false
attribute [local irreducible] sumF Vw splitF capF
def catF (k : Nat) (f g : Nat → Int) : Nat → Int := fun j => if j < k then f j else g (j - k)
theorem Vw_cat (k m : Nat) (f g : Nat → Int) : Vw k f ++ Vw m g = Vw (k + m) (catF k f g) := by
  apply List.ext_getElem?
  intro j
  by_cases h : j < k
  · rw [List.getElem?_append_left (by rw [Vw_length]; exact h), Vw_get h, Vw_get (by omega)]; unfold catF; rw [if_pos h]
  · rw [List.getElem?_append_right (by rw [Vw_length]; omega), Vw_length]
    by_cases h2 : j < k + m
    · rw [Vw_get (by omega), Vw_get h2]; unfold catF; rw [if_neg h]
    · rw [List.getElem?_eq_none (by rw [Vw_length]; omega), List.getElem?_eq_none (by rw [Vw_length]; omega)]
theorem sum_cat (k : Nat) (f g : Nat → Int) : ∀ m, sumF (catF k f g) (k + m) = sumF f k + sumF g m
  | 0 => by rw [Nat.add_zero, sumF_congr (g := f) (fun j hj => by unfold catF; rw [if_pos hj])]; unfold sumF; omega
  | m + 1 => by
    have h := sum_cat k f g m
    rw [show k + (m + 1) = (k + m) + 1 by omega, sumF, h, sumF]
    unfold catF; rw [if_neg (by omega), show k + m - k = m by omega]; omega
theorem nilSl {w : World} : Sl w none (Vw 0 (fun _ => 0)) := by unfold Vw; exact Sl.nil
set_option maxRecDepth 100000 in
set_option maxHeartbeats 2000000 in
theorem law_sums (W : World) {m : Nat} {u : Nat → Int} {A : Option Addr} {cp : Nat} (hS : Sl W A (Vw m u)) (hm : m ≤ 9223372036854775807) {m2 : Nat} {u2 : Nat → Int} {A2 : Option Addr} {cp2 : Nat} (hS2 : Sl W A2 (Vw m2 u2)) (hm2 : m2 ≤ 9223372036854775807) : Calls Try.prog 8 #[.slice A m cp, .slice A2 m2 cp2] W fun e w' => e = .returned (.bool true) ∧ Below W.heap.size W w' := by
  have hM : Hp W (fun _ => False) [] W := Hp.start
  refine TC.enter (n := 40) Try.func8 rfl rfl rfl hM ?_
  refine TC.seq ?_
  refine TC.region ?_
  refine' TL.y rfl rfl rfl ?hy1 ?_
  case hy1 => exact Yl.assign rfl rfl
  refine TL.nil ?_
  refine TE.next ?_
  refine TC.seq ?_
  refine TC.region ?_
  refine' TL.c rfl rfl rfl ?hy2 ?_
  case hy2 => exact Yc.call rfl Try.func9 (by kernel_rfl) rfl rfl (Hp.calls (fun w h => k_works w))
  intro _
  refine' TL.y rfl rfl rfl ?hy3 ?_
  case hy3 => exact Yl.assign rfl rfl
  refine TL.nil ?_
  refine TE.next ?_
  refine TC.seq ?_
  refine TC.seq ?_
  refine TC.region ?_
  refine' TL.y rfl rfl rfl ?hy4 ?_
  case hy4 => exact Yl.move rfl rfl
  refine' TL.y rfl rfl rfl ?hy5 ?_
  case hy5 => exact Yl.not rfl rfl
  refine TL.nil ?_
  refine TE.next ?_
  refine TC.no rfl rfl ?_
  refine TC.skip ?_
  refine TE.next ?_
  refine TC.seq ?_
  refine TC.seq ?_
  refine TC.region ?_
  refine' TL.y rfl rfl rfl ?hy6 ?_
  case hy6 => exact Yl.move rfl rfl
  refine' TL.y rfl rfl rfl ?hy7 ?_
  case hy7 => exact Yl.len rfl rfl Try.underlying22
  refine' TL.y rfl rfl rfl ?hy8 ?_
  case hy8 => exact Yl.bin rfl rfl rfl (Bin.gtr _ _ _ _)
  refine' TL.y rfl rfl rfl ?hy9 ?_
  case hy9 => exact Yl.move rfl rfl
  refine TL.split (i := 13) rfl (fun hs13 => ?_) (fun hs13 => ?_)
  · skip
    (try simp only [decide_eq_true_eq, decide_eq_false_iff_not, beq_iff_eq, beq_eq_false_iff_ne, bne_iff_ne, ne_eq, bne_eq_false_iff_eq, Bool.not_eq_true', Bool.not_eq_false', Int.not_lt, Int.not_le, gt_iff_lt, ge_iff_le] at hs13)
    refine TL.skip rfl rfl rfl ?_
    refine TL.skip rfl rfl rfl ?_
    refine TL.skip rfl rfl rfl ?_
    refine' TL.y rfl rfl rfl ?hy10 ?_
    case hy10 => exact Yl.pickT rfl rfl rfl
    refine TL.nil ?_
    refine TE.next ?_
    refine TC.yes rfl rfl ?_
    refine TC.seq ?_
    refine TC.region ?_
    refine' TL.y rfl rfl rfl ?hy11 ?_
    case hy11 => exact Yl.move rfl rfl
    refine' TL.y rfl rfl rfl ?hy12 ?_
    case hy12 => exact Yl.assign rfl rfl
    refine TL.nil ?_
    refine TE.next ?_
    refine TC.ret ?_
    refine TE.thenRet ?_
    refine TE.ret1 rfl rfl ?_
    exact fun w h => ⟨by first | (simp; done) | (simp [IntKind.wrap_i64]; done) | (simp [IntKind.wrap_i64]; omega), (h.sub (List.nil_sublist _)).below⟩
  · skip
    (try simp only [decide_eq_true_eq, decide_eq_false_iff_not, beq_iff_eq, beq_eq_false_iff_ne, bne_iff_ne, ne_eq, bne_eq_false_iff_eq, Bool.not_eq_true', Bool.not_eq_false', Int.not_lt, Int.not_le, gt_iff_lt, ge_iff_le] at hs13)
    refine' TL.y rfl rfl rfl ?hy13 ?_
    case hy13 => exact Yl.move rfl rfl
    refine' TL.y rfl rfl rfl ?hy14 ?_
    case hy14 => exact Yl.len rfl rfl Try.underlying22
    refine' TL.y rfl rfl rfl ?hy15 ?_
    case hy15 => exact Yl.bin rfl rfl rfl (Bin.gtr _ _ _ _)
    refine' TL.y rfl rfl rfl ?hy16 ?_
    case hy16 => exact Yl.pickF rfl rfl rfl
    refine TL.nil ?_
    refine TE.next ?_
    refine TC.cond rfl (fun hs17 => ?_) (fun hs17 => ?_)
    · skip
      (try simp only [decide_eq_true_eq, decide_eq_false_iff_not, beq_iff_eq, beq_eq_false_iff_ne, bne_iff_ne, ne_eq, bne_eq_false_iff_eq, Bool.not_eq_true', Bool.not_eq_false', Int.not_lt, Int.not_le, gt_iff_lt, ge_iff_le] at hs17)
      refine TC.seq ?_
      refine TC.region ?_
      refine' TL.y rfl rfl rfl ?hy17 ?_
      case hy17 => exact Yl.move rfl rfl
      refine' TL.y rfl rfl rfl ?hy18 ?_
      case hy18 => exact Yl.assign rfl rfl
      refine TL.nil ?_
      refine TE.next ?_
      refine TC.ret ?_
      refine TE.thenRet ?_
      refine TE.ret1 rfl rfl ?_
      exact fun w h => ⟨by first | (simp; done) | (simp [IntKind.wrap_i64]; done) | (simp [IntKind.wrap_i64]; omega), (h.sub (List.nil_sublist _)).below⟩
    · skip
      (try simp only [decide_eq_true_eq, decide_eq_false_iff_not, beq_iff_eq, beq_eq_false_iff_ne, bne_iff_ne, ne_eq, bne_eq_false_iff_eq, Bool.not_eq_true', Bool.not_eq_false', Int.not_lt, Int.not_le, gt_iff_lt, ge_iff_le] at hs17)
      refine TC.skip ?_
      refine TE.next ?_
      refine TC.seq ?_
      refine TC.region ?_
      refine' TL.y rfl rfl rfl ?hy19 ?_
      case hy19 => exact Yl.assign rfl rfl
      refine TL.nil ?_
      refine TE.next ?_
      refine TC.seq ?_
      refine TC.wk (fun w h => Hp.nil (e := 3) (size := 1) h) ?_
      refine TC.region ?_
      refine' TL.y rfl rfl rfl ?hy20 ?_
      case hy20 => exact Yl.move rfl rfl
      refine' TL.y rfl rfl rfl ?hy21 ?_
      case hy21 => exact Yl.move rfl rfl
      refine' TL.mx rfl rfl rfl ?hy22 ?_
      case hy22 => exact Ym.appendSl (news := Vw m2 u2) rfl Try.underlying22 (by kernel_rfl) (z := .int .i64 0) (size := 1) (bytes := 8) rfl (by decide) (by decide) rfl rfl (by rw [Vw_length, Nat.mul_one]) (fun w h => hS2.below h.below) (fun x hx => by unfold Vw at hx; obtain ⟨_, _, rfl⟩ := List.mem_map.1 hx; rfl) (by omega) (fun v' => foc0)
      intro v21
      refine' TL.y rfl rfl rfl ?hy23 ?_
      case hy23 => exact Yl.assign rfl rfl
      refine TL.nil ?_
      refine TE.next ?_
      refine TC.seq ?_
      refine TC.region ?_
      refine' TL.y rfl rfl rfl ?hy24 ?_
      case hy24 => exact Yl.move rfl rfl
      refine' TL.y rfl rfl rfl ?hy25 ?_
      case hy25 => exact Yl.move rfl rfl
      refine' TL.mx rfl rfl rfl ?hy26 ?_
      case hy26 => exact Ym.appendSl (news := Vw m u) rfl Try.underlying22 (by kernel_rfl) (z := .int .i64 0) (size := 1) (bytes := 8) rfl (by decide) (by decide) rfl rfl (by rw [Vw_length, Nat.mul_one]) (fun w h => hS.below h.below) (fun x hx => by unfold Vw at hx; obtain ⟨_, _, rfl⟩ := List.mem_map.1 hx; rfl) (by omega) (fun v' => foc0)
      intro v24
      simp only [Nat.zero_add, List.nil_append, Vw_cat]
      refine TL.fact (fun w h => h.ownSl mem0) ?_
      rintro ⟨A24, c24, rfl⟩
      refine' TL.y rfl rfl rfl ?hy27 ?_
      case hy27 => exact Yl.assign rfl rfl
      refine TL.nil ?_
      refine TE.next ?_
      refine TC.seq ?_
      refine TC.region ?_
      refine' TL.y rfl rfl rfl ?hy28 ?_
      case hy28 => exact Yl.move rfl rfl
      refine' TL.y rfl rfl rfl ?hy29 ?_
      case hy29 => exact Yl.move rfl rfl
      refine' TL.y rfl rfl rfl ?hy30 ?_
      case hy30 => exact Yl.move rfl rfl
      refine' TL.c rfl rfl rfl ?hy31 ?_
      case hy31 => exact Yc.call rfl Try.func13 (by kernel_rfl) rfl rfl (Hp.calls (fun w h => k_sum w (h.ownVw mem0) (by omega)))
      intro _
      rw [sum_cat]
      refine' TL.y rfl rfl rfl ?hy32 ?_
      case hy32 => exact Yl.move rfl rfl
      refine' TL.c rfl rfl rfl ?hy33 ?_
      case hy33 => exact Yc.call rfl Try.func13 (by kernel_rfl) rfl rfl (Hp.calls (fun w h => k_sum w (hS.below h.below) hm))
      intro _
      refine' TL.y rfl rfl rfl ?hy34 ?_
      case hy34 => exact Yl.move rfl rfl
      refine' TL.c rfl rfl rfl ?hy35 ?_
      case hy35 => exact Yc.call rfl Try.func13 (by kernel_rfl) rfl rfl (Hp.calls (fun w h => k_sum w (hS2.below h.below) hm2))
      intro _
      refine' TL.y rfl rfl rfl ?hy36 ?_
      case hy36 => first | (refine Yl.val (Yl.bin rfl rfl rfl (Bin.add _ _ _ _)) (congrArg (Value.int .i64) (i64in ?_ ?_)) <;> omega) | exact Yl.bin rfl rfl rfl (Bin.add _ _ _ _)
      refine' TL.y rfl rfl rfl ?hy37 ?_
      case hy37 => exact Yl.bin rfl rfl rfl (Bin.eql _ _ _ _)
      refine' TL.y rfl rfl rfl ?hy38 ?_
      case hy38 => exact Yl.pickT rfl rfl rfl
      refine' TL.y rfl rfl rfl ?hy39 ?_
      case hy39 => exact Yl.move rfl rfl
      refine TL.re (i := 36) (v' := .bool true) rfl (congrArg Value.bool (by simp only [beq_iff_eq, IntKind.wrap_i64]; omega)) ?_
      refine' TL.c rfl rfl rfl ?hy40 ?_
      case hy40 => exact Yc.call rfl Try.func13 (by kernel_rfl) rfl rfl (Hp.calls (fun w h => k_sum w (cp := 0) nilSl (by decide)))
      intro _
      rw [show sumF (fun _ => (0 : Int)) 0 = 0 from by unfold sumF; rfl, i64in (x := 0) (by decide) (by decide)]
      refine' TL.y rfl rfl rfl ?hy41 ?_
      case hy41 => exact Yl.bin rfl rfl rfl (Bin.eql _ _ _ _)
      refine' TL.y rfl rfl rfl ?hy42 ?_
      case hy42 => exact Yl.pickT rfl rfl rfl
      refine' TL.y rfl rfl rfl ?hy43 ?_
      case hy43 => exact Yl.assign rfl rfl
      refine TL.nil ?_
      refine TE.next ?_
      refine TC.ret ?_
      refine TE.ret1 rfl rfl ?_
      exact fun w h => ⟨by first | (simp; done) | (simp [IntKind.wrap_i64]; done) | (simp [IntKind.wrap_i64]; omega), (h.sub (List.nil_sublist _)).below⟩
end Go.Proofs.Ythjllhaebanplaa.Pk
