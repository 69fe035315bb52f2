/- Who may be; a part. -/
import Derived.Test.YtipdpmmjmlimhaaPrA
import Derived.Test.YtipdpmmjmlimhaaProg
import Derived.RowKit3
namespace Go.Proofs.Ytipdpmmjmlimhaa.Pk
open Go Go.RowKit Go.Proofs.Ytipdpmmjmlimhaa.HL Go.Proofs.Ytipdpmmjmlimhaa.Ev Go.Proofs.YtipdpmmjmlimhaaW.PrintWords Go.Proofs.PrP Go.Proofs.DvP
set_option linter.unusedVariables false
set_option linter.unusedSimpArgs false
attribute [local irreducible] upR nU Nw
set_option maxRecDepth 100000 in
set_option maxHeartbeats 2000000 in
theorem k_amount (W : World) (x : Int) : Calls Try.prog 27 #[.int .i64 x] W fun e w' => e = .returned (.bool (decide (0 ≤ x ∧ x ≤ 1099511627776))) ∧ Below W.heap.size W w' := by
  have hM : Hp W (fun _ => False) [] W := Hp.start
  refine TC.enter (n := 9) Try.func27 rfl rfl rfl hM ?_
  refine TC.seq ?_
  refine TC.region ?_
  refine' TL.y rfl rfl rfl ?hy1 ?_
  case hy1 => exact Yl.assign rfl rfl
  refine TL.nil ?_
  refine TE.next ?_
  refine TC.seq ?_
  refine TC.region ?_
  refine' TL.y rfl rfl rfl ?hy2 ?_
  case hy2 => exact Yl.move rfl rfl
  refine' TL.y rfl rfl rfl ?hy3 ?_
  case hy3 => exact Yl.bin rfl rfl rfl (Bin.leq _ _ _ _)
  refine' TL.y rfl rfl rfl ?hy4 ?_
  case hy4 => exact Yl.move rfl rfl
  refine TL.split (i := 5) rfl (fun hs5 => ?_) (fun hs5 => ?_)
  · skip
    (try simp only [decide_eq_true_eq, decide_eq_false_iff_not, beq_iff_eq, beq_eq_false_iff_ne, bne_iff_ne, ne_eq, bne_eq_false_iff_eq, Bool.not_eq_true', Bool.not_eq_false', Int.not_lt, Int.not_le, gt_iff_lt, ge_iff_le] at hs5)
    refine' TL.y rfl rfl rfl ?hy5 ?_
    case hy5 => exact Yl.move rfl rfl
    refine' TL.y rfl rfl rfl ?hy6 ?_
    case hy6 => exact Yl.bin rfl rfl rfl (Bin.leq _ _ _ _)
    refine' TL.y rfl rfl rfl ?hy7 ?_
    case hy7 => exact Yl.pickT rfl rfl rfl
    refine' TL.y rfl rfl rfl ?hy8 ?_
    case hy8 => exact Yl.assign rfl rfl
    refine TL.nil ?_
    refine TE.next ?_
    refine TC.ret ?_
    refine TE.ret1 rfl rfl ?_
    exact fun w h => ⟨by congr 2; apply decide_eq_decide.2; omega, h.below⟩
  · skip
    (try simp only [decide_eq_true_eq, decide_eq_false_iff_not, beq_iff_eq, beq_eq_false_iff_ne, bne_iff_ne, ne_eq, bne_eq_false_iff_eq, Bool.not_eq_true', Bool.not_eq_false', Int.not_lt, Int.not_le, gt_iff_lt, ge_iff_le] at hs5)
    refine TL.skip rfl rfl rfl ?_
    refine TL.skip rfl rfl rfl ?_
    refine' TL.y rfl rfl rfl ?hy9 ?_
    case hy9 => exact Yl.pickF rfl rfl rfl
    refine' TL.y rfl rfl rfl ?hy10 ?_
    case hy10 => exact Yl.assign rfl rfl
    refine TL.nil ?_
    refine TE.next ?_
    refine TC.ret ?_
    refine TE.ret1 rfl rfl ?_
    exact fun w h => ⟨by rw [decide_eq_false (fun h => by omega)], h.below⟩
set_option maxRecDepth 100000 in
set_option maxHeartbeats 2000000 in
theorem k_own (W : World) (x y z : Int) : Calls Try.prog 22 #[.agg #[.int .i64 x, .int .i64 y, .int .i64 z]] W fun e w' => e = .returned (.int .i64 (if y < z then y else z)) ∧ Below W.heap.size W w' := by
  have hM : Hp W (fun _ => False) [] W := Hp.start
  refine TC.enter (n := 8) Try.func22 rfl rfl rfl hM ?_
  refine TC.seq ?_
  refine TC.region ?_
  refine' TL.mx rfl rfl rfl ?hy1 ?_
  case hy1 => exact Ym.box rfl rfl
  intro b1
  refine' TL.y rfl rfl rfl ?hy2 ?_
  case hy2 => exact Yl.assign rfl rfl
  refine TL.nil ?_
  refine TE.next ?_
  refine TC.seq ?_
  refine TC.region ?_
  refine' TL.y rfl rfl rfl ?hy3 ?_
  case hy3 => first | exact Yl.field0 (k := 0) 2 rfl rfl Try.underlying38 rfl (by kernel_rfl) rfl | exact Yl.field (k := 0) 2 rfl rfl Try.underlying38 rfl (by kernel_rfl) rfl
  refine' TL.y rfl rfl rfl ?hy4 ?_
  case hy4 => first | exact Yl.load rfl rfl (by kernel_rfl) (Hp.cell mem0 rfl) | exact Yl.load rfl rfl (by kernel_rfl) (Hp.cell mem1 rfl) | exact Yl.load rfl rfl (by kernel_rfl) (Hp.cell mem2 rfl) | exact Yl.load rfl rfl (by kernel_rfl) (Hp.cell mem3 rfl) | exact Yl.load rfl rfl (by kernel_rfl) (Hp.cell mem4 rfl) | exact Yl.load rfl rfl (by kernel_rfl) (Hp.rowAt mem0 (by omega) rfl) | exact Yl.load rfl rfl (by kernel_rfl) (Hp.rowAt mem1 (by omega) rfl) | exact Yl.load rfl rfl (by kernel_rfl) (Hp.rowAt mem2 (by omega) rfl) | exact Yl.load rfl rfl (by kernel_rfl) (Hp.rowAt mem3 (by omega) rfl) | exact Yl.load rfl rfl (by kernel_rfl) (Hp.rowAt mem4 (by omega) rfl)
  refine' TL.y rfl rfl rfl ?hy5 ?_
  case hy5 => first | exact Yl.field0 (k := 0) 1 rfl rfl Try.underlying38 rfl (by kernel_rfl) rfl | exact Yl.field (k := 0) 1 rfl rfl Try.underlying38 rfl (by kernel_rfl) rfl
  refine' TL.y rfl rfl rfl ?hy6 ?_
  case hy6 => first | exact Yl.load rfl rfl (by kernel_rfl) (Hp.cell mem0 rfl) | exact Yl.load rfl rfl (by kernel_rfl) (Hp.cell mem1 rfl) | exact Yl.load rfl rfl (by kernel_rfl) (Hp.cell mem2 rfl) | exact Yl.load rfl rfl (by kernel_rfl) (Hp.cell mem3 rfl) | exact Yl.load rfl rfl (by kernel_rfl) (Hp.cell mem4 rfl) | exact Yl.load rfl rfl (by kernel_rfl) (Hp.rowAt mem0 (by omega) rfl) | exact Yl.load rfl rfl (by kernel_rfl) (Hp.rowAt mem1 (by omega) rfl) | exact Yl.load rfl rfl (by kernel_rfl) (Hp.rowAt mem2 (by omega) rfl) | exact Yl.load rfl rfl (by kernel_rfl) (Hp.rowAt mem3 (by omega) rfl) | exact Yl.load rfl rfl (by kernel_rfl) (Hp.rowAt mem4 (by omega) rfl)
  refine' TL.y rfl rfl rfl ?hy7 ?_
  case hy7 => exact Yl.min rfl rfl rfl
  refine' TL.y rfl rfl rfl ?hy8 ?_
  case hy8 => exact Yl.assign rfl rfl
  refine TL.nil ?_
  refine TE.next ?_
  refine TC.ret ?_
  refine TE.ret1 rfl rfl ?_
  exact fun w h => ⟨rfl, (h.sub (List.nil_sublist _)).below⟩
set_option maxRecDepth 100000 in
set_option maxHeartbeats 2000000 in
theorem k_part (W : World) {a p s : Int} (ha0 : 0 ≤ a) (ha1 : a ≤ 70368744177664) (hp0 : 0 ≤ p) (hp1 : p ≤ 70368744177664) (hs0 : 0 < s) (hs1 : s ≤ 70368744177664) (has : a ≤ s) : Calls Try.prog 24 #[.int .i64 a, .int .i64 p, .int .i64 s] W fun e w' => e = .returned (.int .i64 (a * p / s)) ∧ Below W.heap.size W w' := by
  have hq := part_le ha0 hp0 hs0 has
  have hap := mul_bd ha0 ha1 hp0 hp1
  have hlt : a * p / 18446744073709551616 < s := by
    have h2 : a * p ≤ s * p := Int.mul_le_mul_of_nonneg_right has hp0
    have h3 : s * p < s * 18446744073709551616 := Int.mul_lt_mul_of_pos_left (by omega) hs0
    exact Int.ediv_lt_of_lt_mul (by decide) (by omega)
  have hdq : (a * p / 18446744073709551616 * 18446744073709551616 + a * p % 18446744073709551616) / s = a * p / s := by rw [show a * p / 18446744073709551616 * 18446744073709551616 + a * p % 18446744073709551616 = a * p by omega]
  have hM : Hp W (fun _ => False) [] W := Hp.start
  refine TC.enter (n := 29) Try.func24 rfl rfl rfl hM ?_
  refine TC.seq ?_
  refine TC.region ?_
  refine' TL.y rfl rfl rfl ?hy1 ?_
  case hy1 => exact Yl.assign rfl rfl
  refine TL.nil ?_
  refine TE.next ?_
  refine TC.seq ?_
  refine TC.region ?_
  refine' TL.y rfl rfl rfl ?hy2 ?_
  case hy2 => exact Yl.move rfl rfl
  refine' TL.y rfl rfl rfl ?hy3 ?_
  case hy3 => first | (refine Yl.val (Yl.conv rfl rfl (by kernel_rfl) Try.underlying51) (congrArg (Value.int .u64) (u64in ?_ ?_)) <;> omega) | exact Yl.conv rfl rfl (by kernel_rfl) Try.underlying51
  refine' TL.y rfl rfl rfl ?hy4 ?_
  case hy4 => exact Yl.move rfl rfl
  refine' TL.y rfl rfl rfl ?hy5 ?_
  case hy5 => first | (refine Yl.val (Yl.conv rfl rfl (by kernel_rfl) Try.underlying51) (congrArg (Value.int .u64) (u64in ?_ ?_)) <;> omega) | exact Yl.conv rfl rfl (by kernel_rfl) Try.underlying51
  refine' TL.c rfl rfl rfl ?hy6 ?_
  case hy6 => exact Yc.call rfl Try.func31 (by kernel_rfl) rfl rfl (Hp.calls (fun w h => k_mul64 w ha0 ha1 hp0 hp1))
  intro _
  refine' TL.y rfl rfl rfl ?hy7 ?_
  case hy7 => exact Yl.move rfl rfl
  refine' TL.y rfl rfl rfl ?hy8 ?_
  case hy8 => exact Yl.extract rfl rfl rfl
  refine' TL.y rfl rfl rfl ?hy9 ?_
  case hy9 => exact Yl.extract rfl rfl rfl
  refine' TL.y rfl rfl rfl ?hy10 ?_
  case hy10 => exact Yl.assign rfl rfl
  refine' TL.y rfl rfl rfl ?hy11 ?_
  case hy11 => exact Yl.assign rfl rfl
  refine TL.nil ?_
  refine TE.next ?_
  refine TC.seq ?_
  refine TC.region ?_
  refine' TL.y rfl rfl rfl ?hy12 ?_
  case hy12 => exact Yl.move rfl rfl
  refine' TL.y rfl rfl rfl ?hy13 ?_
  case hy13 => exact Yl.move rfl rfl
  refine' TL.y rfl rfl rfl ?hy14 ?_
  case hy14 => exact Yl.move rfl rfl
  refine' TL.y rfl rfl rfl ?hy15 ?_
  case hy15 => first | (refine Yl.val (Yl.conv rfl rfl (by kernel_rfl) Try.underlying51) (congrArg (Value.int .u64) (u64in ?_ ?_)) <;> omega) | exact Yl.conv rfl rfl (by kernel_rfl) Try.underlying51
  refine' TL.c rfl rfl rfl ?hy16 ?_
  case hy16 => exact Yc.call rfl Try.func32 (by kernel_rfl) rfl rfl (Hp.callsx (fun w h => k_div64 w (by omega) (by omega) (by omega) hlt (by omega)))
  intro rr
  rw [hdq]
  refine' TL.y rfl rfl rfl ?hy17 ?_
  case hy17 => exact Yl.move rfl rfl
  refine' TL.y rfl rfl rfl ?hy18 ?_
  case hy18 => exact Yl.extract rfl rfl rfl
  refine' TL.y rfl rfl rfl ?hy19 ?_
  case hy19 => exact Yl.extract rfl rfl rfl
  refine' TL.y rfl rfl rfl ?hy20 ?_
  case hy20 => exact Yl.assign rfl rfl
  refine' TL.y rfl rfl rfl ?hy21 ?_
  case hy21 => exact Yl.assign rfl rfl
  refine TL.nil ?_
  refine TE.next ?_
  refine TC.seq ?_
  refine TC.region ?_
  refine' TL.y rfl rfl rfl ?hy22 ?_
  case hy22 => exact Yl.move rfl rfl
  refine' TL.y rfl rfl rfl ?hy23 ?_
  case hy23 => first | (refine Yl.val (Yl.conv rfl rfl (by kernel_rfl) Try.underlying3) (congrArg (Value.int .i64) (i64in ?_ ?_)) <;> omega) | exact Yl.conv rfl rfl (by kernel_rfl) Try.underlying3
  refine' TL.y rfl rfl rfl ?hy24 ?_
  case hy24 => exact Yl.assign rfl rfl
  refine TL.nil ?_
  refine TE.next ?_
  refine TC.ret ?_
  refine TE.ret1 rfl rfl ?_
  exact fun w h => ⟨rfl, h.below⟩
set_option maxRecDepth 100000 in
set_option maxHeartbeats 2000000 in
theorem k_rpart (W : World) {a p s : Int} (ha0 : 0 ≤ a) (ha1 : a ≤ 70368744177664) (hp0 : 0 ≤ p) (hp1 : p ≤ 70368744177664) (hs0 : 0 < s) (hs1 : s ≤ 70368744177664) (has : a ≤ s) : Calls Try.prog 26 #[.int .i64 a, .int .i64 p, .int .i64 s] W fun e w' => e = .returned (.int .i64 (a * p / s)) ∧ Below W.heap.size W w' := by
  have hz47 : p / 2 ^ 47 = 0 := Int.ediv_eq_zero_of_lt hp0 (by omega)
  have hM : Hp W (fun _ => False) [] W := Hp.start
  refine TC.enter (n := 35) Try.func26 rfl rfl rfl hM ?_
  refine TC.seq ?_
  refine TC.region ?_
  refine' TL.y rfl rfl rfl ?hy1 ?_
  case hy1 => exact Yl.assign rfl rfl
  refine TL.nil ?_
  refine TE.next ?_
  refine TC.seq ?_
  refine TC.region ?_
  refine' TL.y rfl rfl rfl ?hy2 ?_
  case hy2 => exact Yl.assign rfl rfl
  refine TL.nil ?_
  refine TE.next ?_
  refine TC.seq ?_
  refine TC.region ?_
  refine' TL.y rfl rfl rfl ?hy3 ?_
  case hy3 => exact Yl.assign rfl rfl
  refine TL.nil ?_
  refine TE.next ?_
  refine TC.seq ?_
  refine TC.seq ?_
  refine TC.region ?_
  refine' TL.y rfl rfl rfl ?hy4 ?_
  case hy4 => exact Yl.assign rfl rfl
  refine TL.nil ?_
  refine TE.next ?_
  refine TC.block ?_
  refine TC.loop (σ := Nat) (fun b => [(0, .int .i64 a), (1, .int .i64 p), (2, .int .i64 s), (7, .int .i64 (a * (p / 2 ^ b) / s)), (8, .int .i64 (a * (p / 2 ^ b) % s)), (9, .int .i64 ((b : Int) - 1))]) (fun b => Hp W (fun _ => False) []) (fun b => b ≤ 47) (fun b => b) 47 ?hF5 ?hs5 ?hm5 ?round5
  case hF5 => exact Nat.le_refl _
  case hs5 => exact ⟨rfl, rfl, rfl, (by show some (Value.int .i64 0) = _; rw [hz47]; simp), (by show some (Value.int .i64 0) = _; rw [hz47]; simp), rfl, trivial⟩
  case hm5 => exact fun _ h => h
  case round5 =>
    intro b hb
    refine TC.seq ?_
    refine TC.seq ?_
    refine TC.region ?_
    refine' TL.y rfl rfl rfl ?hy6 ?_
    case hy6 => exact Yl.move rfl rfl
    refine' TL.y rfl rfl rfl ?hy7 ?_
    case hy7 => exact Yl.bin rfl rfl rfl (Bin.geq _ _ _ _)
    refine TL.nil ?_
    refine TE.next ?_
    refine TC.cond rfl (fun hs11 => ?_) (fun hs11 => ?_)
    · skip
      (try simp only [decide_eq_true_eq, decide_eq_false_iff_not, beq_iff_eq, beq_eq_false_iff_ne, bne_iff_ne, ne_eq, bne_eq_false_iff_eq, Bool.not_eq_true', Bool.not_eq_false', Int.not_lt, Int.not_le, gt_iff_lt, ge_iff_le] at hs11)
      obtain ⟨c, rfl⟩ : ∃ c, b = c + 1 := ⟨b - 1, by omega⟩
      rw [show ((c + 1 : Nat) : Int) - 1 = (c : Int) by omega]
      obtain ⟨hd, hstq0, hstr0⟩ := part_step (c := c) ha0 hp0 hs0
      have hp2 : 0 ≤ p / 2 ^ (c + 1) := Int.ediv_nonneg hp0 (Int.le_of_lt (Int.pow_pos (by decide)))
      have hp3 : p / 2 ^ (c + 1) ≤ p := Int.ediv_le_self _ hp0
      have hq := part_le ha0 hp2 hs0 has
      have hr0 := Int.emod_nonneg (a * (p / 2 ^ (c + 1))) (show s ≠ 0 by omega)
      have hr1 := Int.emod_lt_of_pos (a * (p / 2 ^ (c + 1))) hs0
      have hc2 : 0 ≤ p / 2 ^ c := Int.ediv_nonneg hp0 (Int.le_of_lt (Int.pow_pos (by decide)))
      refine TC.skip ?_
      refine TE.next ?_
      refine TC.seq ?_
      refine TC.block ?_
      refine TC.seq ?_
      refine TC.region ?_
      refine' TL.y rfl rfl rfl ?hy8 ?_
      case hy8 => exact Yl.move rfl rfl
      refine' TL.y rfl rfl rfl ?hy9 ?_
      case hy9 => first | (refine Yl.val (Yl.bin rfl rfl rfl (Bin.mul _ _ _ _)) (congrArg (Value.int .i64) (i64in ?_ ?_)) <;> omega) | exact Yl.bin rfl rfl rfl (Bin.mul _ _ _ _)
      refine' TL.y rfl rfl rfl ?hy10 ?_
      case hy10 => exact Yl.assign rfl rfl
      refine TL.nil ?_
      refine TE.next ?_
      refine TC.seq ?_
      refine TC.region ?_
      refine' TL.y rfl rfl rfl ?hy11 ?_
      case hy11 => exact Yl.move rfl rfl
      refine' TL.y rfl rfl rfl ?hy12 ?_
      case hy12 => first | (refine Yl.val (Yl.bin rfl rfl rfl (Bin.mul _ _ _ _)) (congrArg (Value.int .i64) (i64in ?_ ?_)) <;> omega) | exact Yl.bin rfl rfl rfl (Bin.mul _ _ _ _)
      refine' TL.y rfl rfl rfl ?hy13 ?_
      case hy13 => exact Yl.assign rfl rfl
      refine TL.nil ?_
      refine TE.next ?_
      refine TC.seq ?_
      refine TC.seq ?_
      refine TC.region ?_
      refine' TL.y rfl rfl rfl ?hy14 ?_
      case hy14 => exact Yl.move rfl rfl
      refine' TL.y rfl rfl rfl ?hy15 ?_
      case hy15 => exact Yl.move rfl rfl
      refine' TL.y rfl rfl rfl ?hy16 ?_
      case hy16 => exact Yl.val (Yl.bin rfl rfl rfl (Bin.shr _ _ _ _ _ (by omega))) (congrArg (Value.int .i64) (show p / 2 ^ min ((c : Nat) : Int).toNat IntKind.i64.bits = p / 2 ^ c from by rw [show IntKind.i64.bits = 64 from rfl, Int.toNat_natCast, Nat.min_eq_left (by omega)]))
      refine' TL.y rfl rfl rfl ?hy17 ?_
      case hy17 => exact Yl.val (Yl.bin rfl rfl rfl (Bin.rem _ _ _ _ (by omega))) (congrArg (Value.int .i64) (show (p / 2 ^ c).tmod 2 = p / 2 ^ c % 2 from Int.tmod_eq_emod_of_nonneg hc2))
      refine' TL.y rfl rfl rfl ?hy18 ?_
      case hy18 => exact Yl.bin rfl rfl rfl (Bin.eql _ _ _ _)
      refine TL.nil ?_
      refine TE.next ?_
      refine TC.cond rfl (fun hs22 => ?_) (fun hs22 => ?_)
      · skip
        (try simp only [decide_eq_true_eq, decide_eq_false_iff_not, beq_iff_eq, beq_eq_false_iff_ne, bne_iff_ne, ne_eq, bne_eq_false_iff_eq, Bool.not_eq_true', Bool.not_eq_false', Int.not_lt, Int.not_le, gt_iff_lt, ge_iff_le] at hs22)
        rw [show p / 2 ^ c % 2 = 1 by omega] at hstq0 hstr0
        have hstq : a * (p / 2 ^ c) / s = 2 * (a * (p / 2 ^ (c + 1)) / s) + (2 * (a * (p / 2 ^ (c + 1)) % s) + a) / s := by rw [hstq0]; simp
        have hstr : a * (p / 2 ^ c) % s = (2 * (a * (p / 2 ^ (c + 1)) % s) + a) % s := by rw [hstr0]; simp
        have hdv0 : 0 ≤ (2 * (a * (p / 2 ^ (c + 1)) % s) + a) / s := Int.ediv_nonneg (by omega) (by omega)
        have hdv1 : (2 * (a * (p / 2 ^ (c + 1)) % s) + a) / s ≤ (2 * (a * (p / 2 ^ (c + 1)) % s) + a) := Int.ediv_le_self _ (by omega)
        refine TC.region ?_
        refine' TL.y rfl rfl rfl ?hy19 ?_
        case hy19 => exact Yl.move rfl rfl
        refine' TL.y rfl rfl rfl ?hy20 ?_
        case hy20 => exact Yl.move rfl rfl
        refine' TL.y rfl rfl rfl ?hy21 ?_
        case hy21 => first | (refine Yl.val (Yl.bin rfl rfl rfl (Bin.add _ _ _ _)) (congrArg (Value.int .i64) (i64in ?_ ?_)) <;> omega) | exact Yl.bin rfl rfl rfl (Bin.add _ _ _ _)
        refine' TL.y rfl rfl rfl ?hy22 ?_
        case hy22 => exact Yl.assign rfl rfl
        refine TL.nil ?_
        refine TE.next ?_
        refine TC.seq ?_
        refine TC.region ?_
        refine' TL.y rfl rfl rfl ?hy23 ?_
        case hy23 => exact Yl.move rfl rfl
        refine' TL.y rfl rfl rfl ?hy24 ?_
        case hy24 => exact Yl.move rfl rfl
        refine' TL.y rfl rfl rfl ?hy25 ?_
        case hy25 => exact Yl.move rfl rfl
        refine' TL.y rfl rfl rfl ?hy26 ?_
        case hy26 => exact Yl.val (Yl.bin rfl rfl rfl (Bin.quo _ _ _ _ (by omega))) (congrArg (Value.int .i64) ((show ∀ z : Int, 0 ≤ z → z ≤ 211106232532992 → 0 ≤ z / s → z / s ≤ z → IntKind.i64.wrap (z.tdiv s) = z / s from fun z h0 h1 h2 h3 => by rw [Int.tdiv_eq_ediv_of_nonneg h0]; exact i64in (by omega) (by omega)) _ (by omega) (by omega) hdv0 hdv1))
        refine' TL.y rfl rfl rfl ?hy27 ?_
        case hy27 => first | (refine Yl.val (Yl.bin rfl rfl rfl (Bin.add _ _ _ _)) (congrArg (Value.int .i64) (i64in ?_ ?_)) <;> omega) | exact Yl.bin rfl rfl rfl (Bin.add _ _ _ _)
        refine' TL.y rfl rfl rfl ?hy28 ?_
        case hy28 => exact Yl.assign rfl rfl
        refine TL.nil ?_
        refine TE.next ?_
        refine TC.region ?_
        refine' TL.y rfl rfl rfl ?hy29 ?_
        case hy29 => exact Yl.move rfl rfl
        refine' TL.y rfl rfl rfl ?hy30 ?_
        case hy30 => exact Yl.move rfl rfl
        refine' TL.y rfl rfl rfl ?hy31 ?_
        case hy31 => exact Yl.val (Yl.bin rfl rfl rfl (Bin.rem _ _ _ _ (by omega))) (congrArg (Value.int .i64) (Int.tmod_eq_emod_of_nonneg (by omega)))
        refine' TL.y rfl rfl rfl ?hy32 ?_
        case hy32 => exact Yl.assign rfl rfl
        refine TL.nil ?_
        refine TE.inNormal ?_
        refine TE.next ?_
        refine TC.region ?_
        refine' TL.y rfl rfl rfl ?hy33 ?_
        case hy33 => exact Yl.move rfl rfl
        refine' TL.y rfl rfl rfl ?hy34 ?_
        case hy34 => first | (refine Yl.val (Yl.bin rfl rfl rfl (Bin.sub _ _ _ _)) (congrArg (Value.int .i64) (i64in ?_ ?_)) <;> omega) | exact Yl.bin rfl rfl rfl (Bin.sub _ _ _ _)
        refine' TL.y rfl rfl rfl ?hy35 ?_
        case hy35 => exact Yl.assign rfl rfl
        refine TL.nil ?_
        refine TE.round c ?hF36 ?hlt36 ?hs36 ?hm36
        case hF36 => omega
        case hlt36 => omega
        case hs36 => exact ⟨rfl, rfl, rfl, (by show some (Value.int .i64 (2 * (a * (p / 2 ^ (c + 1)) / s) + (2 * (a * (p / 2 ^ (c + 1)) % s) + a) / s)) = _; rw [hstq]), (by show some (Value.int .i64 ((2 * (a * (p / 2 ^ (c + 1)) % s) + a) % s)) = _; rw [hstr]), rfl, trivial⟩
        case hm36 => exact fun _ h => h
      · skip
        (try simp only [decide_eq_true_eq, decide_eq_false_iff_not, beq_iff_eq, beq_eq_false_iff_ne, bne_iff_ne, ne_eq, bne_eq_false_iff_eq, Bool.not_eq_true', Bool.not_eq_false', Int.not_lt, Int.not_le, gt_iff_lt, ge_iff_le] at hs22)
        rw [show p / 2 ^ c % 2 = 0 by omega] at hstq0 hstr0
        have hstq : a * (p / 2 ^ c) / s = 2 * (a * (p / 2 ^ (c + 1)) / s) + (2 * (a * (p / 2 ^ (c + 1)) % s)) / s := by rw [hstq0]; simp
        have hstr : a * (p / 2 ^ c) % s = (2 * (a * (p / 2 ^ (c + 1)) % s)) % s := by rw [hstr0]; simp
        have hdv0 : 0 ≤ (2 * (a * (p / 2 ^ (c + 1)) % s)) / s := Int.ediv_nonneg (by omega) (by omega)
        have hdv1 : (2 * (a * (p / 2 ^ (c + 1)) % s)) / s ≤ (2 * (a * (p / 2 ^ (c + 1)) % s)) := Int.ediv_le_self _ (by omega)
        refine TC.skip ?_
        refine TE.next ?_
        refine TC.seq ?_
        refine TC.region ?_
        refine' TL.y rfl rfl rfl ?hy37 ?_
        case hy37 => exact Yl.move rfl rfl
        refine' TL.y rfl rfl rfl ?hy38 ?_
        case hy38 => exact Yl.move rfl rfl
        refine' TL.y rfl rfl rfl ?hy39 ?_
        case hy39 => exact Yl.move rfl rfl
        refine' TL.y rfl rfl rfl ?hy40 ?_
        case hy40 => exact Yl.val (Yl.bin rfl rfl rfl (Bin.quo _ _ _ _ (by omega))) (congrArg (Value.int .i64) ((show ∀ z : Int, 0 ≤ z → z ≤ 211106232532992 → 0 ≤ z / s → z / s ≤ z → IntKind.i64.wrap (z.tdiv s) = z / s from fun z h0 h1 h2 h3 => by rw [Int.tdiv_eq_ediv_of_nonneg h0]; exact i64in (by omega) (by omega)) _ (by omega) (by omega) hdv0 hdv1))
        refine' TL.y rfl rfl rfl ?hy41 ?_
        case hy41 => first | (refine Yl.val (Yl.bin rfl rfl rfl (Bin.add _ _ _ _)) (congrArg (Value.int .i64) (i64in ?_ ?_)) <;> omega) | exact Yl.bin rfl rfl rfl (Bin.add _ _ _ _)
        refine' TL.y rfl rfl rfl ?hy42 ?_
        case hy42 => exact Yl.assign rfl rfl
        refine TL.nil ?_
        refine TE.next ?_
        refine TC.region ?_
        refine' TL.y rfl rfl rfl ?hy43 ?_
        case hy43 => exact Yl.move rfl rfl
        refine' TL.y rfl rfl rfl ?hy44 ?_
        case hy44 => exact Yl.move rfl rfl
        refine' TL.y rfl rfl rfl ?hy45 ?_
        case hy45 => exact Yl.val (Yl.bin rfl rfl rfl (Bin.rem _ _ _ _ (by omega))) (congrArg (Value.int .i64) (Int.tmod_eq_emod_of_nonneg (by omega)))
        refine' TL.y rfl rfl rfl ?hy46 ?_
        case hy46 => exact Yl.assign rfl rfl
        refine TL.nil ?_
        refine TE.inNormal ?_
        refine TE.next ?_
        refine TC.region ?_
        refine' TL.y rfl rfl rfl ?hy47 ?_
        case hy47 => exact Yl.move rfl rfl
        refine' TL.y rfl rfl rfl ?hy48 ?_
        case hy48 => first | (refine Yl.val (Yl.bin rfl rfl rfl (Bin.sub _ _ _ _)) (congrArg (Value.int .i64) (i64in ?_ ?_)) <;> omega) | exact Yl.bin rfl rfl rfl (Bin.sub _ _ _ _)
        refine' TL.y rfl rfl rfl ?hy49 ?_
        case hy49 => exact Yl.assign rfl rfl
        refine TL.nil ?_
        refine TE.round c ?hF50 ?hlt50 ?hs50 ?hm50
        case hF50 => omega
        case hlt50 => omega
        case hs50 => exact ⟨rfl, rfl, rfl, (by show some (Value.int .i64 (2 * (a * (p / 2 ^ (c + 1)) / s) + (2 * (a * (p / 2 ^ (c + 1)) % s)) / s)) = _; rw [hstq]), (by show some (Value.int .i64 ((2 * (a * (p / 2 ^ (c + 1)) % s)) % s)) = _; rw [hstr]), rfl, trivial⟩
        case hm50 => exact fun _ h => h
    · skip
      (try simp only [decide_eq_true_eq, decide_eq_false_iff_not, beq_iff_eq, beq_eq_false_iff_ne, bne_iff_ne, ne_eq, bne_eq_false_iff_eq, Bool.not_eq_true', Bool.not_eq_false', Int.not_lt, Int.not_le, gt_iff_lt, ge_iff_le] at hs11)
      refine TC.exit ?_
      refine TE.thenExit ?_
      refine TE.thenExit ?_
      refine TE.inHere ?_
      refine TE.next ?_
      refine TC.seq ?_
      refine TC.region ?_
      refine' TL.y rfl rfl rfl ?hy51 ?_
      case hy51 => exact Yl.move rfl rfl
      refine' TL.y rfl rfl rfl ?hy52 ?_
      case hy52 => exact Yl.assign rfl rfl
      refine TL.nil ?_
      refine TE.next ?_
      refine TC.ret ?_
      refine TE.ret1 rfl rfl ?_
      obtain rfl : b = 0 := by omega
      exact fun w h => ⟨by rw [show p / 2 ^ 0 = p by simp], h.below⟩
set_option maxRecDepth 100000 in
set_option maxHeartbeats 2000000 in
theorem k_valid (W : World) {m : Nat} {f : Nat → Nd} {A : Option Addr} {cp : Nat} (hS : Sl W A (Nw m f)) (hm : m ≤ 9223372036854775807) : Calls Try.prog 14 #[.slice A m cp] W fun e w' => e = .returned (.bool (decide (Vld m f))) ∧ Below W.heap.size W w' := by
  have hM : Hp W (fun _ => False) [] W := Hp.start
  refine TC.enter (n := 49) Try.func14 rfl rfl rfl hM ?_
  refine TC.seq ?_
  refine TC.region ?_
  refine' TL.y rfl rfl rfl ?hy1 ?_
  case hy1 => exact Yl.assign rfl rfl
  refine TL.nil ?_
  refine TE.next ?_
  refine TC.seq ?_
  refine TC.seq ?_
  refine TC.region ?_
  refine' TL.y rfl rfl rfl ?hy2 ?_
  case hy2 => exact Yl.move rfl rfl
  refine' TL.y rfl rfl rfl ?hy3 ?_
  case hy3 => exact Yl.len rfl rfl Try.underlying22
  refine' TL.y rfl rfl rfl ?hy4 ?_
  case hy4 => exact Yl.move rfl rfl
  refine TL.nil ?_
  refine TE.next ?_
  refine TC.block ?_
  refine TC.loop (σ := Nat) (fun i => [(0, .slice A m cp), (6, .slice A m cp), (7, .int .i64 (m : Int)), (8, .int .i64 (i : Int))]) (fun i => Hp W (fun _ => False) []) (fun i => i ≤ m ∧ ∀ j, j < i → okN j (f j)) (fun i => m - i) 0 ?hF5 ?hs5 ?hm5 ?round5
  case hF5 => exact ⟨Nat.zero_le _, fun j hj => by omega⟩
  case hs5 => exact ⟨rfl, rfl, rfl, rfl, trivial⟩
  case hm5 => exact fun _ h => h
  case round5 =>
    rintro i ⟨hi, hF⟩
    refine TC.seq ?_
    refine TC.region ?_
    refine' TL.y rfl rfl rfl ?hy6 ?_
    case hy6 => exact Yl.bin rfl rfl rfl (Bin.lss _ _ _ _)
    refine TL.nil ?_
    refine TE.next ?_
    refine TC.seq ?_
    refine TC.cond rfl (fun hs9 => ?_) (fun hs9 => ?_)
    · skip
      (try simp only [decide_eq_true_eq, decide_eq_false_iff_not, beq_iff_eq, beq_eq_false_iff_ne, bne_iff_ne, ne_eq, bne_eq_false_iff_eq, Bool.not_eq_true', Bool.not_eq_false', Int.not_lt, Int.not_le, gt_iff_lt, ge_iff_le] at hs9)
      obtain ⟨b, o, rfl⟩ := Sl.some2 hS (by rw [Nw_length]; omega)
      refine TC.skip ?_
      refine TE.next ?_
      refine TC.seq ?_
      refine TC.block ?_
      refine TC.seq ?_
      refine TC.region ?_
      refine' TL.y rfl rfl rfl ?hy7 ?_
      case hy7 => exact Yl.move rfl rfl
      refine' TL.y rfl rfl rfl ?hy8 ?_
      case hy8 => first | exact Yl.ixkn (k := 3) rfl rfl rfl Try.underlying22 (by kernel_rfl) (by omega)
      refine' TL.y rfl rfl rfl ?hy9 ?_
      case hy9 => first | exact Yl.loads rfl rfl (by kernel_rfl) (by kernel_rfl) (Sl.nws hS (by omega))
      refine' TL.mx rfl rfl rfl ?hy10 ?_
      case hy10 => exact Ym.alloc (z := .agg #[.int .i64 0, .int .i64 0, .int .i64 0]) rfl (by kernel_rfl)
      intro b4
      refine' TL.y rfl rfl rfl ?hy11 ?_
      case hy11 => exact Yl.assign rfl rfl
      refine' TL.s rfl rfl ?hy12 ?_
      case hy12 => exact Ys.store (seg := [.int .i64 (f i).1, .int .i64 (f i).2.1, .int .i64 (f i).2.2]) (c' := #[.int .i64 (f i).1, .int .i64 (f i).2.1, .int .i64 (f i).2.2]) rfl rfl rfl (by simp [Value.cells]) (by kernel_rfl) (by simp [Value.oneCell']) foc0 (by simp [Value.cells]) rfl
      refine TL.nil ?_
      refine TE.next ?_
      refine TC.seq ?_
      refine TC.region ?_
      refine' TL.y rfl rfl rfl ?hy13 ?_
      case hy13 => exact Yl.move rfl rfl
      refine' TL.y rfl rfl rfl ?hy14 ?_
      case hy14 => exact Yl.bin rfl rfl rfl (Bin.eql _ _ _ _)
      refine' TL.y rfl rfl rfl ?hy15 ?_
      case hy15 => exact Yl.move rfl rfl
      refine TL.split (i := 15) rfl (fun hs15 => ?_) (fun hs15 => ?_)
      · skip
        (try simp only [decide_eq_true_eq, decide_eq_false_iff_not, beq_iff_eq, beq_eq_false_iff_ne, bne_iff_ne, ne_eq, bne_eq_false_iff_eq, Bool.not_eq_true', Bool.not_eq_false', Int.not_lt, Int.not_le, gt_iff_lt, ge_iff_le] at hs15)
        refine' TL.y rfl rfl rfl ?hy16 ?_
        case hy16 => first | exact Yl.field0 (k := 0) 0 rfl rfl Try.underlying38 rfl (by kernel_rfl) rfl | exact Yl.field (k := 0) 0 rfl rfl Try.underlying38 rfl (by kernel_rfl) rfl
        refine' TL.y rfl rfl rfl ?hy17 ?_
        case hy17 => first | exact Yl.load rfl rfl (by kernel_rfl) (Sl.nws hS (by omega)) | exact Yl.load rfl rfl (by kernel_rfl) (Hp.cell mem0 rfl) | exact Yl.load rfl rfl (by kernel_rfl) (Hp.cell mem1 rfl) | exact Yl.load rfl rfl (by kernel_rfl) (Hp.cell mem2 rfl) | exact Yl.load rfl rfl (by kernel_rfl) (Hp.cell mem3 rfl) | exact Yl.load rfl rfl (by kernel_rfl) (Hp.cell mem4 rfl) | exact Yl.load rfl rfl (by kernel_rfl) (Hp.rowAt mem0 (by omega) rfl) | exact Yl.load rfl rfl (by kernel_rfl) (Hp.rowAt mem1 (by omega) rfl) | exact Yl.load rfl rfl (by kernel_rfl) (Hp.rowAt mem2 (by omega) rfl) | exact Yl.load rfl rfl (by kernel_rfl) (Hp.rowAt mem3 (by omega) rfl) | exact Yl.load rfl rfl (by kernel_rfl) (Hp.rowAt mem4 (by omega) rfl)
        refine' TL.y rfl rfl rfl ?hy18 ?_
        case hy18 => exact Yl.bin rfl rfl rfl (Bin.eql _ _ _ _)
        refine' TL.y rfl rfl rfl ?hy19 ?_
        case hy19 => exact Yl.pickT rfl rfl rfl
        refine' TL.y rfl rfl rfl ?hy20 ?_
        case hy20 => exact Yl.assign rfl rfl
        refine TL.nil ?_
        refine TE.next ?_
        refine TC.seq ?_
        refine TC.region ?_
        refine' TL.y rfl rfl rfl ?hy21 ?_
        case hy21 => exact Yl.move rfl rfl
        refine' TL.y rfl rfl rfl ?hy22 ?_
        case hy22 => exact Yl.not rfl rfl
        refine' TL.y rfl rfl rfl ?hy23 ?_
        case hy23 => exact Yl.move rfl rfl
        refine TL.split (i := 22) rfl (fun hs22 => ?_) (fun hs22 => ?_)
        · skip
          (try simp only [decide_eq_true_eq, decide_eq_false_iff_not, beq_iff_eq, beq_eq_false_iff_ne, bne_iff_ne, ne_eq, bne_eq_false_iff_eq, Bool.not_eq_true', Bool.not_eq_false', Int.not_lt, Int.not_le, gt_iff_lt, ge_iff_le] at hs22)
          refine' TL.y rfl rfl rfl ?hy24 ?_
          case hy24 => first | exact Yl.field0 (k := 0) 0 rfl rfl Try.underlying38 rfl (by kernel_rfl) rfl | exact Yl.field (k := 0) 0 rfl rfl Try.underlying38 rfl (by kernel_rfl) rfl
          refine' TL.y rfl rfl rfl ?hy25 ?_
          case hy25 => first | exact Yl.load rfl rfl (by kernel_rfl) (Sl.nws hS (by omega)) | exact Yl.load rfl rfl (by kernel_rfl) (Hp.cell mem0 rfl) | exact Yl.load rfl rfl (by kernel_rfl) (Hp.cell mem1 rfl) | exact Yl.load rfl rfl (by kernel_rfl) (Hp.cell mem2 rfl) | exact Yl.load rfl rfl (by kernel_rfl) (Hp.cell mem3 rfl) | exact Yl.load rfl rfl (by kernel_rfl) (Hp.cell mem4 rfl) | exact Yl.load rfl rfl (by kernel_rfl) (Hp.rowAt mem0 (by omega) rfl) | exact Yl.load rfl rfl (by kernel_rfl) (Hp.rowAt mem1 (by omega) rfl) | exact Yl.load rfl rfl (by kernel_rfl) (Hp.rowAt mem2 (by omega) rfl) | exact Yl.load rfl rfl (by kernel_rfl) (Hp.rowAt mem3 (by omega) rfl) | exact Yl.load rfl rfl (by kernel_rfl) (Hp.rowAt mem4 (by omega) rfl)
          refine' TL.y rfl rfl rfl ?hy26 ?_
          case hy26 => exact Yl.bin rfl rfl rfl (Bin.lss _ _ _ _)
          refine' TL.y rfl rfl rfl ?hy27 ?_
          case hy27 => exact Yl.move rfl rfl
          refine TL.split (i := 26) rfl (fun hs26 => ?_) (fun hs26 => ?_)
          · skip
            (try simp only [decide_eq_true_eq, decide_eq_false_iff_not, beq_iff_eq, beq_eq_false_iff_ne, bne_iff_ne, ne_eq, bne_eq_false_iff_eq, Bool.not_eq_true', Bool.not_eq_false', Int.not_lt, Int.not_le, gt_iff_lt, ge_iff_le] at hs26)
            refine TL.skip rfl rfl rfl ?_
            refine TL.skip rfl rfl rfl ?_
            refine TL.skip rfl rfl rfl ?_
            refine TL.skip rfl rfl rfl ?_
            refine' TL.y rfl rfl rfl ?hy28 ?_
            case hy28 => exact Yl.pickT rfl rfl rfl
            refine' TL.y rfl rfl rfl ?hy29 ?_
            case hy29 => exact Yl.pickT rfl rfl rfl
            refine' TL.y rfl rfl rfl ?hy30 ?_
            case hy30 => exact Yl.move rfl rfl
            refine TL.skip rfl rfl rfl ?_
            refine TL.skip rfl rfl rfl ?_
            refine TL.skip rfl rfl rfl ?_
            refine TL.skip rfl rfl rfl ?_
            refine' TL.y rfl rfl rfl ?hy31 ?_
            case hy31 => exact Yl.pickT rfl rfl rfl
            refine' TL.y rfl rfl rfl ?hy32 ?_
            case hy32 => exact Yl.move rfl rfl
            refine TL.skip rfl rfl rfl ?_
            refine TL.skip rfl rfl rfl ?_
            refine TL.skip rfl rfl rfl ?_
            refine TL.skip rfl rfl rfl ?_
            refine' TL.y rfl rfl rfl ?hy33 ?_
            case hy33 => exact Yl.pickT rfl rfl rfl
            refine TL.nil ?_
            refine TE.next ?_
            refine TC.yes rfl rfl ?_
            refine TC.seq ?_
            refine TC.region ?_
            refine' TL.y rfl rfl rfl ?hy34 ?_
            case hy34 => exact Yl.assign rfl rfl
            refine TL.nil ?_
            refine TE.next ?_
            refine TC.ret ?_
            refine TE.inRet ?_
            refine TE.thenRet ?_
            refine TE.thenRet ?_
            refine TE.inRet ?_
            refine TE.thenRet ?_
            refine TE.ret1 rfl rfl ?_
            exact fun w h => ⟨by rw [decide_eq_false (fun h : Vld m f => by have := (vld_iff.1 h).2 i (by omega); unfold okN at this; omega)], (h.sub (List.nil_sublist _)).below⟩
          · skip
            (try simp only [decide_eq_true_eq, decide_eq_false_iff_not, beq_iff_eq, beq_eq_false_iff_ne, bne_iff_ne, ne_eq, bne_eq_false_iff_eq, Bool.not_eq_true', Bool.not_eq_false', Int.not_lt, Int.not_le, gt_iff_lt, ge_iff_le] at hs26)
            refine' TL.y rfl rfl rfl ?hy35 ?_
            case hy35 => first | exact Yl.field0 (k := 0) 0 rfl rfl Try.underlying38 rfl (by kernel_rfl) rfl | exact Yl.field (k := 0) 0 rfl rfl Try.underlying38 rfl (by kernel_rfl) rfl
            refine' TL.y rfl rfl rfl ?hy36 ?_
            case hy36 => first | exact Yl.load rfl rfl (by kernel_rfl) (Sl.nws hS (by omega)) | exact Yl.load rfl rfl (by kernel_rfl) (Hp.cell mem0 rfl) | exact Yl.load rfl rfl (by kernel_rfl) (Hp.cell mem1 rfl) | exact Yl.load rfl rfl (by kernel_rfl) (Hp.cell mem2 rfl) | exact Yl.load rfl rfl (by kernel_rfl) (Hp.cell mem3 rfl) | exact Yl.load rfl rfl (by kernel_rfl) (Hp.cell mem4 rfl) | exact Yl.load rfl rfl (by kernel_rfl) (Hp.rowAt mem0 (by omega) rfl) | exact Yl.load rfl rfl (by kernel_rfl) (Hp.rowAt mem1 (by omega) rfl) | exact Yl.load rfl rfl (by kernel_rfl) (Hp.rowAt mem2 (by omega) rfl) | exact Yl.load rfl rfl (by kernel_rfl) (Hp.rowAt mem3 (by omega) rfl) | exact Yl.load rfl rfl (by kernel_rfl) (Hp.rowAt mem4 (by omega) rfl)
            refine' TL.y rfl rfl rfl ?hy37 ?_
            case hy37 => exact Yl.move rfl rfl
            refine' TL.y rfl rfl rfl ?hy38 ?_
            case hy38 => exact Yl.bin rfl rfl rfl (Bin.geq _ _ _ _)
            refine' TL.y rfl rfl rfl ?hy39 ?_
            case hy39 => exact Yl.pickF rfl rfl rfl
            refine' TL.y rfl rfl rfl ?hy40 ?_
            case hy40 => exact Yl.pickT rfl rfl rfl
            refine' TL.y rfl rfl rfl ?hy41 ?_
            case hy41 => exact Yl.move rfl rfl
            refine TL.split (i := 33) rfl (fun hs33 => ?_) (fun hs33 => ?_)
            · skip
              (try simp only [decide_eq_true_eq, decide_eq_false_iff_not, beq_iff_eq, beq_eq_false_iff_ne, bne_iff_ne, ne_eq, bne_eq_false_iff_eq, Bool.not_eq_true', Bool.not_eq_false', Int.not_lt, Int.not_le, gt_iff_lt, ge_iff_le] at hs33)
              refine TL.skip rfl rfl rfl ?_
              refine TL.skip rfl rfl rfl ?_
              refine TL.skip rfl rfl rfl ?_
              refine TL.skip rfl rfl rfl ?_
              refine' TL.y rfl rfl rfl ?hy42 ?_
              case hy42 => exact Yl.pickT rfl rfl rfl
              refine' TL.y rfl rfl rfl ?hy43 ?_
              case hy43 => exact Yl.move rfl rfl
              refine TL.skip rfl rfl rfl ?_
              refine TL.skip rfl rfl rfl ?_
              refine TL.skip rfl rfl rfl ?_
              refine TL.skip rfl rfl rfl ?_
              refine' TL.y rfl rfl rfl ?hy44 ?_
              case hy44 => exact Yl.pickT rfl rfl rfl
              refine TL.nil ?_
              refine TE.next ?_
              refine TC.yes rfl rfl ?_
              refine TC.seq ?_
              refine TC.region ?_
              refine' TL.y rfl rfl rfl ?hy45 ?_
              case hy45 => exact Yl.assign rfl rfl
              refine TL.nil ?_
              refine TE.next ?_
              refine TC.ret ?_
              refine TE.inRet ?_
              refine TE.thenRet ?_
              refine TE.thenRet ?_
              refine TE.inRet ?_
              refine TE.thenRet ?_
              refine TE.ret1 rfl rfl ?_
              exact fun w h => ⟨by rw [decide_eq_false (fun h : Vld m f => by have := (vld_iff.1 h).2 i (by omega); unfold okN at this; omega)], (h.sub (List.nil_sublist _)).below⟩
            · skip
              (try simp only [decide_eq_true_eq, decide_eq_false_iff_not, beq_iff_eq, beq_eq_false_iff_ne, bne_iff_ne, ne_eq, bne_eq_false_iff_eq, Bool.not_eq_true', Bool.not_eq_false', Int.not_lt, Int.not_le, gt_iff_lt, ge_iff_le] at hs33)
              refine' TL.y rfl rfl rfl ?hy46 ?_
              case hy46 => first | exact Yl.field0 (k := 0) 1 rfl rfl Try.underlying38 rfl (by kernel_rfl) rfl | exact Yl.field (k := 0) 1 rfl rfl Try.underlying38 rfl (by kernel_rfl) rfl
              refine' TL.y rfl rfl rfl ?hy47 ?_
              case hy47 => first | exact Yl.load rfl rfl (by kernel_rfl) (Sl.nws hS (by omega)) | exact Yl.load rfl rfl (by kernel_rfl) (Hp.cell mem0 rfl) | exact Yl.load rfl rfl (by kernel_rfl) (Hp.cell mem1 rfl) | exact Yl.load rfl rfl (by kernel_rfl) (Hp.cell mem2 rfl) | exact Yl.load rfl rfl (by kernel_rfl) (Hp.cell mem3 rfl) | exact Yl.load rfl rfl (by kernel_rfl) (Hp.cell mem4 rfl) | exact Yl.load rfl rfl (by kernel_rfl) (Hp.rowAt mem0 (by omega) rfl) | exact Yl.load rfl rfl (by kernel_rfl) (Hp.rowAt mem1 (by omega) rfl) | exact Yl.load rfl rfl (by kernel_rfl) (Hp.rowAt mem2 (by omega) rfl) | exact Yl.load rfl rfl (by kernel_rfl) (Hp.rowAt mem3 (by omega) rfl) | exact Yl.load rfl rfl (by kernel_rfl) (Hp.rowAt mem4 (by omega) rfl)
              refine' TL.c rfl rfl rfl ?hy48 ?_
              case hy48 => exact Yc.call rfl Try.func27 (by kernel_rfl) rfl rfl (Hp.calls (fun w h => k_amount w _))
              intro _
              refine' TL.y rfl rfl rfl ?hy49 ?_
              case hy49 => exact Yl.not rfl rfl
              refine' TL.y rfl rfl rfl ?hy50 ?_
              case hy50 => exact Yl.pickF rfl rfl rfl
              refine' TL.y rfl rfl rfl ?hy51 ?_
              case hy51 => exact Yl.move rfl rfl
              refine TL.split (i := 39) rfl (fun hs39 => ?_) (fun hs39 => ?_)
              · skip
                (try simp only [decide_eq_true_eq, decide_eq_false_iff_not, beq_iff_eq, beq_eq_false_iff_ne, bne_iff_ne, ne_eq, bne_eq_false_iff_eq, Bool.not_eq_true', Bool.not_eq_false', Int.not_lt, Int.not_le, gt_iff_lt, ge_iff_le] at hs39)
                refine TL.skip rfl rfl rfl ?_
                refine TL.skip rfl rfl rfl ?_
                refine TL.skip rfl rfl rfl ?_
                refine TL.skip rfl rfl rfl ?_
                refine' TL.y rfl rfl rfl ?hy52 ?_
                case hy52 => exact Yl.pickT rfl rfl rfl
                refine TL.nil ?_
                refine TE.next ?_
                refine TC.yes rfl rfl ?_
                refine TC.seq ?_
                refine TC.region ?_
                refine' TL.y rfl rfl rfl ?hy53 ?_
                case hy53 => exact Yl.assign rfl rfl
                refine TL.nil ?_
                refine TE.next ?_
                refine TC.ret ?_
                refine TE.inRet ?_
                refine TE.thenRet ?_
                refine TE.thenRet ?_
                refine TE.inRet ?_
                refine TE.thenRet ?_
                refine TE.ret1 rfl rfl ?_
                exact fun w h => ⟨by rw [decide_eq_false (fun h : Vld m f => by have := (vld_iff.1 h).2 i (by omega); unfold okN at this; omega)], (h.sub (List.nil_sublist _)).below⟩
              · skip
                (try simp only [decide_eq_true_eq, decide_eq_false_iff_not, beq_iff_eq, beq_eq_false_iff_ne, bne_iff_ne, ne_eq, bne_eq_false_iff_eq, Bool.not_eq_true', Bool.not_eq_false', Int.not_lt, Int.not_le, gt_iff_lt, ge_iff_le] at hs39)
                refine' TL.y rfl rfl rfl ?hy54 ?_
                case hy54 => first | exact Yl.field0 (k := 0) 2 rfl rfl Try.underlying38 rfl (by kernel_rfl) rfl | exact Yl.field (k := 0) 2 rfl rfl Try.underlying38 rfl (by kernel_rfl) rfl
                refine' TL.y rfl rfl rfl ?hy55 ?_
                case hy55 => first | exact Yl.load rfl rfl (by kernel_rfl) (Sl.nws hS (by omega)) | exact Yl.load rfl rfl (by kernel_rfl) (Hp.cell mem0 rfl) | exact Yl.load rfl rfl (by kernel_rfl) (Hp.cell mem1 rfl) | exact Yl.load rfl rfl (by kernel_rfl) (Hp.cell mem2 rfl) | exact Yl.load rfl rfl (by kernel_rfl) (Hp.cell mem3 rfl) | exact Yl.load rfl rfl (by kernel_rfl) (Hp.cell mem4 rfl) | exact Yl.load rfl rfl (by kernel_rfl) (Hp.rowAt mem0 (by omega) rfl) | exact Yl.load rfl rfl (by kernel_rfl) (Hp.rowAt mem1 (by omega) rfl) | exact Yl.load rfl rfl (by kernel_rfl) (Hp.rowAt mem2 (by omega) rfl) | exact Yl.load rfl rfl (by kernel_rfl) (Hp.rowAt mem3 (by omega) rfl) | exact Yl.load rfl rfl (by kernel_rfl) (Hp.rowAt mem4 (by omega) rfl)
                refine' TL.c rfl rfl rfl ?hy56 ?_
                case hy56 => exact Yc.call rfl Try.func27 (by kernel_rfl) rfl rfl (Hp.calls (fun w h => k_amount w _))
                intro _
                refine' TL.y rfl rfl rfl ?hy57 ?_
                case hy57 => exact Yl.not rfl rfl
                refine' TL.y rfl rfl rfl ?hy58 ?_
                case hy58 => exact Yl.pickF rfl rfl rfl
                refine TL.nil ?_
                refine TE.next ?_
                refine TC.cond rfl (fun hs44 => ?_) (fun hs44 => ?_)
                · skip
                  (try simp only [decide_eq_true_eq, decide_eq_false_iff_not, beq_iff_eq, beq_eq_false_iff_ne, bne_iff_ne, ne_eq, bne_eq_false_iff_eq, Bool.not_eq_true', Bool.not_eq_false', Int.not_lt, Int.not_le, gt_iff_lt, ge_iff_le] at hs44)
                  refine TC.seq ?_
                  refine TC.region ?_
                  refine' TL.y rfl rfl rfl ?hy59 ?_
                  case hy59 => exact Yl.assign rfl rfl
                  refine TL.nil ?_
                  refine TE.next ?_
                  refine TC.ret ?_
                  refine TE.inRet ?_
                  refine TE.thenRet ?_
                  refine TE.thenRet ?_
                  refine TE.inRet ?_
                  refine TE.thenRet ?_
                  refine TE.ret1 rfl rfl ?_
                  exact fun w h => ⟨by rw [decide_eq_false (fun h : Vld m f => by have := (vld_iff.1 h).2 i (by omega); unfold okN at this; omega)], (h.sub (List.nil_sublist _)).below⟩
                · skip
                  (try simp only [decide_eq_true_eq, decide_eq_false_iff_not, beq_iff_eq, beq_eq_false_iff_ne, bne_iff_ne, ne_eq, bne_eq_false_iff_eq, Bool.not_eq_true', Bool.not_eq_false', Int.not_lt, Int.not_le, gt_iff_lt, ge_iff_le] at hs44)
                  refine TC.skip ?_
                  refine TE.inNormal ?_
                  refine TE.next ?_
                  refine TC.region ?_
                  refine' TL.y rfl rfl rfl ?hy60 ?_
                  case hy60 => first | (refine Yl.val (Yl.bin rfl rfl rfl (Bin.add _ _ _ _)) (congrArg (Value.int .i64) (i64in ?_ ?_)) <;> omega) | exact Yl.bin rfl rfl rfl (Bin.add _ _ _ _)
                  refine' TL.y rfl rfl rfl ?hy61 ?_
                  case hy61 => exact Yl.move rfl rfl
                  refine TL.nil ?_
                  refine TE.round (i + 1) ?hF62 ?hlt62 ?hs62 ?hm62
                  case hF62 => exact ⟨by omega, fun j hj => by
                    by_cases e : j = i
                    · subst e; unfold okN; omega
                    · exact hF j (by omega)⟩
                  case hlt62 => omega
                  case hs62 => exact ⟨rfl, rfl, rfl, rfl, trivial⟩
                  case hm62 => exact fun w h => h.sub (List.nil_sublist _)
        · skip
          (try simp only [decide_eq_true_eq, decide_eq_false_iff_not, beq_iff_eq, beq_eq_false_iff_ne, bne_iff_ne, ne_eq, bne_eq_false_iff_eq, Bool.not_eq_true', Bool.not_eq_false', Int.not_lt, Int.not_le, gt_iff_lt, ge_iff_le] at hs22)
          refine TL.skip rfl rfl rfl ?_
          refine TL.skip rfl rfl rfl ?_
          refine TL.skip rfl rfl rfl ?_
          refine TL.skip rfl rfl rfl ?_
          refine TL.skip rfl rfl rfl ?_
          refine TL.skip rfl rfl rfl ?_
          refine TL.skip rfl rfl rfl ?_
          refine TL.skip rfl rfl rfl ?_
          refine TL.skip rfl rfl rfl ?_
          refine' TL.y rfl rfl rfl ?hy63 ?_
          case hy63 => exact Yl.pickF rfl rfl rfl
          refine' TL.y rfl rfl rfl ?hy64 ?_
          case hy64 => exact Yl.move rfl rfl
          refine' TL.y rfl rfl rfl ?hy65 ?_
          case hy65 => first | exact Yl.field0 (k := 0) 1 rfl rfl Try.underlying38 rfl (by kernel_rfl) rfl | exact Yl.field (k := 0) 1 rfl rfl Try.underlying38 rfl (by kernel_rfl) rfl
          refine' TL.y rfl rfl rfl ?hy66 ?_
          case hy66 => first | exact Yl.load rfl rfl (by kernel_rfl) (Sl.nws hS (by omega)) | exact Yl.load rfl rfl (by kernel_rfl) (Hp.cell mem0 rfl) | exact Yl.load rfl rfl (by kernel_rfl) (Hp.cell mem1 rfl) | exact Yl.load rfl rfl (by kernel_rfl) (Hp.cell mem2 rfl) | exact Yl.load rfl rfl (by kernel_rfl) (Hp.cell mem3 rfl) | exact Yl.load rfl rfl (by kernel_rfl) (Hp.cell mem4 rfl) | exact Yl.load rfl rfl (by kernel_rfl) (Hp.rowAt mem0 (by omega) rfl) | exact Yl.load rfl rfl (by kernel_rfl) (Hp.rowAt mem1 (by omega) rfl) | exact Yl.load rfl rfl (by kernel_rfl) (Hp.rowAt mem2 (by omega) rfl) | exact Yl.load rfl rfl (by kernel_rfl) (Hp.rowAt mem3 (by omega) rfl) | exact Yl.load rfl rfl (by kernel_rfl) (Hp.rowAt mem4 (by omega) rfl)
          refine' TL.c rfl rfl rfl ?hy67 ?_
          case hy67 => exact Yc.call rfl Try.func27 (by kernel_rfl) rfl rfl (Hp.calls (fun w h => k_amount w _))
          intro _
          refine' TL.y rfl rfl rfl ?hy68 ?_
          case hy68 => exact Yl.not rfl rfl
          refine' TL.y rfl rfl rfl ?hy69 ?_
          case hy69 => exact Yl.pickF rfl rfl rfl
          refine' TL.y rfl rfl rfl ?hy70 ?_
          case hy70 => exact Yl.move rfl rfl
          refine TL.split (i := 39) rfl (fun hs39 => ?_) (fun hs39 => ?_)
          · skip
            (try simp only [decide_eq_true_eq, decide_eq_false_iff_not, beq_iff_eq, beq_eq_false_iff_ne, bne_iff_ne, ne_eq, bne_eq_false_iff_eq, Bool.not_eq_true', Bool.not_eq_false', Int.not_lt, Int.not_le, gt_iff_lt, ge_iff_le] at hs39)
            refine TL.skip rfl rfl rfl ?_
            refine TL.skip rfl rfl rfl ?_
            refine TL.skip rfl rfl rfl ?_
            refine TL.skip rfl rfl rfl ?_
            refine' TL.y rfl rfl rfl ?hy71 ?_
            case hy71 => exact Yl.pickT rfl rfl rfl
            refine TL.nil ?_
            refine TE.next ?_
            refine TC.yes rfl rfl ?_
            refine TC.seq ?_
            refine TC.region ?_
            refine' TL.y rfl rfl rfl ?hy72 ?_
            case hy72 => exact Yl.assign rfl rfl
            refine TL.nil ?_
            refine TE.next ?_
            refine TC.ret ?_
            refine TE.inRet ?_
            refine TE.thenRet ?_
            refine TE.thenRet ?_
            refine TE.inRet ?_
            refine TE.thenRet ?_
            refine TE.ret1 rfl rfl ?_
            exact fun w h => ⟨by rw [decide_eq_false (fun h : Vld m f => by have := (vld_iff.1 h).2 i (by omega); unfold okN at this; omega)], (h.sub (List.nil_sublist _)).below⟩
          · skip
            (try simp only [decide_eq_true_eq, decide_eq_false_iff_not, beq_iff_eq, beq_eq_false_iff_ne, bne_iff_ne, ne_eq, bne_eq_false_iff_eq, Bool.not_eq_true', Bool.not_eq_false', Int.not_lt, Int.not_le, gt_iff_lt, ge_iff_le] at hs39)
            refine' TL.y rfl rfl rfl ?hy73 ?_
            case hy73 => first | exact Yl.field0 (k := 0) 2 rfl rfl Try.underlying38 rfl (by kernel_rfl) rfl | exact Yl.field (k := 0) 2 rfl rfl Try.underlying38 rfl (by kernel_rfl) rfl
            refine' TL.y rfl rfl rfl ?hy74 ?_
            case hy74 => first | exact Yl.load rfl rfl (by kernel_rfl) (Sl.nws hS (by omega)) | exact Yl.load rfl rfl (by kernel_rfl) (Hp.cell mem0 rfl) | exact Yl.load rfl rfl (by kernel_rfl) (Hp.cell mem1 rfl) | exact Yl.load rfl rfl (by kernel_rfl) (Hp.cell mem2 rfl) | exact Yl.load rfl rfl (by kernel_rfl) (Hp.cell mem3 rfl) | exact Yl.load rfl rfl (by kernel_rfl) (Hp.cell mem4 rfl) | exact Yl.load rfl rfl (by kernel_rfl) (Hp.rowAt mem0 (by omega) rfl) | exact Yl.load rfl rfl (by kernel_rfl) (Hp.rowAt mem1 (by omega) rfl) | exact Yl.load rfl rfl (by kernel_rfl) (Hp.rowAt mem2 (by omega) rfl) | exact Yl.load rfl rfl (by kernel_rfl) (Hp.rowAt mem3 (by omega) rfl) | exact Yl.load rfl rfl (by kernel_rfl) (Hp.rowAt mem4 (by omega) rfl)
            refine' TL.c rfl rfl rfl ?hy75 ?_
            case hy75 => exact Yc.call rfl Try.func27 (by kernel_rfl) rfl rfl (Hp.calls (fun w h => k_amount w _))
            intro _
            refine' TL.y rfl rfl rfl ?hy76 ?_
            case hy76 => exact Yl.not rfl rfl
            refine' TL.y rfl rfl rfl ?hy77 ?_
            case hy77 => exact Yl.pickF rfl rfl rfl
            refine TL.nil ?_
            refine TE.next ?_
            refine TC.cond rfl (fun hs44 => ?_) (fun hs44 => ?_)
            · skip
              (try simp only [decide_eq_true_eq, decide_eq_false_iff_not, beq_iff_eq, beq_eq_false_iff_ne, bne_iff_ne, ne_eq, bne_eq_false_iff_eq, Bool.not_eq_true', Bool.not_eq_false', Int.not_lt, Int.not_le, gt_iff_lt, ge_iff_le] at hs44)
              refine TC.seq ?_
              refine TC.region ?_
              refine' TL.y rfl rfl rfl ?hy78 ?_
              case hy78 => exact Yl.assign rfl rfl
              refine TL.nil ?_
              refine TE.next ?_
              refine TC.ret ?_
              refine TE.inRet ?_
              refine TE.thenRet ?_
              refine TE.thenRet ?_
              refine TE.inRet ?_
              refine TE.thenRet ?_
              refine TE.ret1 rfl rfl ?_
              exact fun w h => ⟨by rw [decide_eq_false (fun h : Vld m f => by have := (vld_iff.1 h).2 i (by omega); unfold okN at this; omega)], (h.sub (List.nil_sublist _)).below⟩
            · skip
              (try simp only [decide_eq_true_eq, decide_eq_false_iff_not, beq_iff_eq, beq_eq_false_iff_ne, bne_iff_ne, ne_eq, bne_eq_false_iff_eq, Bool.not_eq_true', Bool.not_eq_false', Int.not_lt, Int.not_le, gt_iff_lt, ge_iff_le] at hs44)
              refine TC.skip ?_
              refine TE.inNormal ?_
              refine TE.next ?_
              refine TC.region ?_
              refine' TL.y rfl rfl rfl ?hy79 ?_
              case hy79 => first | (refine Yl.val (Yl.bin rfl rfl rfl (Bin.add _ _ _ _)) (congrArg (Value.int .i64) (i64in ?_ ?_)) <;> omega) | exact Yl.bin rfl rfl rfl (Bin.add _ _ _ _)
              refine' TL.y rfl rfl rfl ?hy80 ?_
              case hy80 => exact Yl.move rfl rfl
              refine TL.nil ?_
              refine TE.round (i + 1) ?hF81 ?hlt81 ?hs81 ?hm81
              case hF81 => exact ⟨by omega, fun j hj => by
                by_cases e : j = i
                · subst e; unfold okN; omega
                · exact hF j (by omega)⟩
              case hlt81 => omega
              case hs81 => exact ⟨rfl, rfl, rfl, rfl, trivial⟩
              case hm81 => exact fun w h => h.sub (List.nil_sublist _)
      · skip
        (try simp only [decide_eq_true_eq, decide_eq_false_iff_not, beq_iff_eq, beq_eq_false_iff_ne, bne_iff_ne, ne_eq, bne_eq_false_iff_eq, Bool.not_eq_true', Bool.not_eq_false', Int.not_lt, Int.not_le, gt_iff_lt, ge_iff_le] at hs15)
        refine TL.skip rfl rfl rfl ?_
        refine TL.skip rfl rfl rfl ?_
        refine TL.skip rfl rfl rfl ?_
        refine' TL.y rfl rfl rfl ?hy82 ?_
        case hy82 => exact Yl.pickF rfl rfl rfl
        refine' TL.y rfl rfl rfl ?hy83 ?_
        case hy83 => exact Yl.assign rfl rfl
        refine TL.nil ?_
        refine TE.next ?_
        refine TC.seq ?_
        refine TC.region ?_
        refine' TL.y rfl rfl rfl ?hy84 ?_
        case hy84 => exact Yl.move rfl rfl
        refine' TL.y rfl rfl rfl ?hy85 ?_
        case hy85 => exact Yl.not rfl rfl
        refine' TL.y rfl rfl rfl ?hy86 ?_
        case hy86 => exact Yl.move rfl rfl
        refine' TL.y rfl rfl rfl ?hy87 ?_
        case hy87 => first | exact Yl.field0 (k := 0) 0 rfl rfl Try.underlying38 rfl (by kernel_rfl) rfl | exact Yl.field (k := 0) 0 rfl rfl Try.underlying38 rfl (by kernel_rfl) rfl
        refine' TL.y rfl rfl rfl ?hy88 ?_
        case hy88 => first | exact Yl.load rfl rfl (by kernel_rfl) (Sl.nws hS (by omega)) | exact Yl.load rfl rfl (by kernel_rfl) (Hp.cell mem0 rfl) | exact Yl.load rfl rfl (by kernel_rfl) (Hp.cell mem1 rfl) | exact Yl.load rfl rfl (by kernel_rfl) (Hp.cell mem2 rfl) | exact Yl.load rfl rfl (by kernel_rfl) (Hp.cell mem3 rfl) | exact Yl.load rfl rfl (by kernel_rfl) (Hp.cell mem4 rfl) | exact Yl.load rfl rfl (by kernel_rfl) (Hp.rowAt mem0 (by omega) rfl) | exact Yl.load rfl rfl (by kernel_rfl) (Hp.rowAt mem1 (by omega) rfl) | exact Yl.load rfl rfl (by kernel_rfl) (Hp.rowAt mem2 (by omega) rfl) | exact Yl.load rfl rfl (by kernel_rfl) (Hp.rowAt mem3 (by omega) rfl) | exact Yl.load rfl rfl (by kernel_rfl) (Hp.rowAt mem4 (by omega) rfl)
        refine' TL.y rfl rfl rfl ?hy89 ?_
        case hy89 => exact Yl.bin rfl rfl rfl (Bin.lss _ _ _ _)
        refine' TL.y rfl rfl rfl ?hy90 ?_
        case hy90 => exact Yl.move rfl rfl
        refine TL.split (i := 26) rfl (fun hs26 => ?_) (fun hs26 => ?_)
        · skip
          (try simp only [decide_eq_true_eq, decide_eq_false_iff_not, beq_iff_eq, beq_eq_false_iff_ne, bne_iff_ne, ne_eq, bne_eq_false_iff_eq, Bool.not_eq_true', Bool.not_eq_false', Int.not_lt, Int.not_le, gt_iff_lt, ge_iff_le] at hs26)
          refine TL.skip rfl rfl rfl ?_
          refine TL.skip rfl rfl rfl ?_
          refine TL.skip rfl rfl rfl ?_
          refine TL.skip rfl rfl rfl ?_
          refine' TL.y rfl rfl rfl ?hy91 ?_
          case hy91 => exact Yl.pickT rfl rfl rfl
          refine' TL.y rfl rfl rfl ?hy92 ?_
          case hy92 => exact Yl.pickT rfl rfl rfl
          refine' TL.y rfl rfl rfl ?hy93 ?_
          case hy93 => exact Yl.move rfl rfl
          refine TL.skip rfl rfl rfl ?_
          refine TL.skip rfl rfl rfl ?_
          refine TL.skip rfl rfl rfl ?_
          refine TL.skip rfl rfl rfl ?_
          refine' TL.y rfl rfl rfl ?hy94 ?_
          case hy94 => exact Yl.pickT rfl rfl rfl
          refine' TL.y rfl rfl rfl ?hy95 ?_
          case hy95 => exact Yl.move rfl rfl
          refine TL.skip rfl rfl rfl ?_
          refine TL.skip rfl rfl rfl ?_
          refine TL.skip rfl rfl rfl ?_
          refine TL.skip rfl rfl rfl ?_
          refine' TL.y rfl rfl rfl ?hy96 ?_
          case hy96 => exact Yl.pickT rfl rfl rfl
          refine TL.nil ?_
          refine TE.next ?_
          refine TC.yes rfl rfl ?_
          refine TC.seq ?_
          refine TC.region ?_
          refine' TL.y rfl rfl rfl ?hy97 ?_
          case hy97 => exact Yl.assign rfl rfl
          refine TL.nil ?_
          refine TE.next ?_
          refine TC.ret ?_
          refine TE.inRet ?_
          refine TE.thenRet ?_
          refine TE.thenRet ?_
          refine TE.inRet ?_
          refine TE.thenRet ?_
          refine TE.ret1 rfl rfl ?_
          exact fun w h => ⟨by rw [decide_eq_false (fun h : Vld m f => by have := (vld_iff.1 h).2 i (by omega); unfold okN at this; omega)], (h.sub (List.nil_sublist _)).below⟩
        · skip
          (try simp only [decide_eq_true_eq, decide_eq_false_iff_not, beq_iff_eq, beq_eq_false_iff_ne, bne_iff_ne, ne_eq, bne_eq_false_iff_eq, Bool.not_eq_true', Bool.not_eq_false', Int.not_lt, Int.not_le, gt_iff_lt, ge_iff_le] at hs26)
          refine' TL.y rfl rfl rfl ?hy98 ?_
          case hy98 => first | exact Yl.field0 (k := 0) 0 rfl rfl Try.underlying38 rfl (by kernel_rfl) rfl | exact Yl.field (k := 0) 0 rfl rfl Try.underlying38 rfl (by kernel_rfl) rfl
          refine' TL.y rfl rfl rfl ?hy99 ?_
          case hy99 => first | exact Yl.load rfl rfl (by kernel_rfl) (Sl.nws hS (by omega)) | exact Yl.load rfl rfl (by kernel_rfl) (Hp.cell mem0 rfl) | exact Yl.load rfl rfl (by kernel_rfl) (Hp.cell mem1 rfl) | exact Yl.load rfl rfl (by kernel_rfl) (Hp.cell mem2 rfl) | exact Yl.load rfl rfl (by kernel_rfl) (Hp.cell mem3 rfl) | exact Yl.load rfl rfl (by kernel_rfl) (Hp.cell mem4 rfl) | exact Yl.load rfl rfl (by kernel_rfl) (Hp.rowAt mem0 (by omega) rfl) | exact Yl.load rfl rfl (by kernel_rfl) (Hp.rowAt mem1 (by omega) rfl) | exact Yl.load rfl rfl (by kernel_rfl) (Hp.rowAt mem2 (by omega) rfl) | exact Yl.load rfl rfl (by kernel_rfl) (Hp.rowAt mem3 (by omega) rfl) | exact Yl.load rfl rfl (by kernel_rfl) (Hp.rowAt mem4 (by omega) rfl)
          refine' TL.y rfl rfl rfl ?hy100 ?_
          case hy100 => exact Yl.move rfl rfl
          refine' TL.y rfl rfl rfl ?hy101 ?_
          case hy101 => exact Yl.bin rfl rfl rfl (Bin.geq _ _ _ _)
          refine' TL.y rfl rfl rfl ?hy102 ?_
          case hy102 => exact Yl.pickF rfl rfl rfl
          refine' TL.y rfl rfl rfl ?hy103 ?_
          case hy103 => exact Yl.pickT rfl rfl rfl
          refine' TL.y rfl rfl rfl ?hy104 ?_
          case hy104 => exact Yl.move rfl rfl
          refine TL.split (i := 33) rfl (fun hs33 => ?_) (fun hs33 => ?_)
          · skip
            (try simp only [decide_eq_true_eq, decide_eq_false_iff_not, beq_iff_eq, beq_eq_false_iff_ne, bne_iff_ne, ne_eq, bne_eq_false_iff_eq, Bool.not_eq_true', Bool.not_eq_false', Int.not_lt, Int.not_le, gt_iff_lt, ge_iff_le] at hs33)
            refine TL.skip rfl rfl rfl ?_
            refine TL.skip rfl rfl rfl ?_
            refine TL.skip rfl rfl rfl ?_
            refine TL.skip rfl rfl rfl ?_
            refine' TL.y rfl rfl rfl ?hy105 ?_
            case hy105 => exact Yl.pickT rfl rfl rfl
            refine' TL.y rfl rfl rfl ?hy106 ?_
            case hy106 => exact Yl.move rfl rfl
            refine TL.skip rfl rfl rfl ?_
            refine TL.skip rfl rfl rfl ?_
            refine TL.skip rfl rfl rfl ?_
            refine TL.skip rfl rfl rfl ?_
            refine' TL.y rfl rfl rfl ?hy107 ?_
            case hy107 => exact Yl.pickT rfl rfl rfl
            refine TL.nil ?_
            refine TE.next ?_
            refine TC.yes rfl rfl ?_
            refine TC.seq ?_
            refine TC.region ?_
            refine' TL.y rfl rfl rfl ?hy108 ?_
            case hy108 => exact Yl.assign rfl rfl
            refine TL.nil ?_
            refine TE.next ?_
            refine TC.ret ?_
            refine TE.inRet ?_
            refine TE.thenRet ?_
            refine TE.thenRet ?_
            refine TE.inRet ?_
            refine TE.thenRet ?_
            refine TE.ret1 rfl rfl ?_
            exact fun w h => ⟨by rw [decide_eq_false (fun h : Vld m f => by have := (vld_iff.1 h).2 i (by omega); unfold okN at this; omega)], (h.sub (List.nil_sublist _)).below⟩
          · skip
            (try simp only [decide_eq_true_eq, decide_eq_false_iff_not, beq_iff_eq, beq_eq_false_iff_ne, bne_iff_ne, ne_eq, bne_eq_false_iff_eq, Bool.not_eq_true', Bool.not_eq_false', Int.not_lt, Int.not_le, gt_iff_lt, ge_iff_le] at hs33)
            refine' TL.y rfl rfl rfl ?hy109 ?_
            case hy109 => first | exact Yl.field0 (k := 0) 1 rfl rfl Try.underlying38 rfl (by kernel_rfl) rfl | exact Yl.field (k := 0) 1 rfl rfl Try.underlying38 rfl (by kernel_rfl) rfl
            refine' TL.y rfl rfl rfl ?hy110 ?_
            case hy110 => first | exact Yl.load rfl rfl (by kernel_rfl) (Sl.nws hS (by omega)) | exact Yl.load rfl rfl (by kernel_rfl) (Hp.cell mem0 rfl) | exact Yl.load rfl rfl (by kernel_rfl) (Hp.cell mem1 rfl) | exact Yl.load rfl rfl (by kernel_rfl) (Hp.cell mem2 rfl) | exact Yl.load rfl rfl (by kernel_rfl) (Hp.cell mem3 rfl) | exact Yl.load rfl rfl (by kernel_rfl) (Hp.cell mem4 rfl) | exact Yl.load rfl rfl (by kernel_rfl) (Hp.rowAt mem0 (by omega) rfl) | exact Yl.load rfl rfl (by kernel_rfl) (Hp.rowAt mem1 (by omega) rfl) | exact Yl.load rfl rfl (by kernel_rfl) (Hp.rowAt mem2 (by omega) rfl) | exact Yl.load rfl rfl (by kernel_rfl) (Hp.rowAt mem3 (by omega) rfl) | exact Yl.load rfl rfl (by kernel_rfl) (Hp.rowAt mem4 (by omega) rfl)
            refine' TL.c rfl rfl rfl ?hy111 ?_
            case hy111 => exact Yc.call rfl Try.func27 (by kernel_rfl) rfl rfl (Hp.calls (fun w h => k_amount w _))
            intro _
            refine' TL.y rfl rfl rfl ?hy112 ?_
            case hy112 => exact Yl.not rfl rfl
            refine' TL.y rfl rfl rfl ?hy113 ?_
            case hy113 => exact Yl.pickF rfl rfl rfl
            refine' TL.y rfl rfl rfl ?hy114 ?_
            case hy114 => exact Yl.move rfl rfl
            refine TL.split (i := 39) rfl (fun hs39 => ?_) (fun hs39 => ?_)
            · skip
              (try simp only [decide_eq_true_eq, decide_eq_false_iff_not, beq_iff_eq, beq_eq_false_iff_ne, bne_iff_ne, ne_eq, bne_eq_false_iff_eq, Bool.not_eq_true', Bool.not_eq_false', Int.not_lt, Int.not_le, gt_iff_lt, ge_iff_le] at hs39)
              refine TL.skip rfl rfl rfl ?_
              refine TL.skip rfl rfl rfl ?_
              refine TL.skip rfl rfl rfl ?_
              refine TL.skip rfl rfl rfl ?_
              refine' TL.y rfl rfl rfl ?hy115 ?_
              case hy115 => exact Yl.pickT rfl rfl rfl
              refine TL.nil ?_
              refine TE.next ?_
              refine TC.yes rfl rfl ?_
              refine TC.seq ?_
              refine TC.region ?_
              refine' TL.y rfl rfl rfl ?hy116 ?_
              case hy116 => exact Yl.assign rfl rfl
              refine TL.nil ?_
              refine TE.next ?_
              refine TC.ret ?_
              refine TE.inRet ?_
              refine TE.thenRet ?_
              refine TE.thenRet ?_
              refine TE.inRet ?_
              refine TE.thenRet ?_
              refine TE.ret1 rfl rfl ?_
              exact fun w h => ⟨by rw [decide_eq_false (fun h : Vld m f => by have := (vld_iff.1 h).2 i (by omega); unfold okN at this; omega)], (h.sub (List.nil_sublist _)).below⟩
            · skip
              (try simp only [decide_eq_true_eq, decide_eq_false_iff_not, beq_iff_eq, beq_eq_false_iff_ne, bne_iff_ne, ne_eq, bne_eq_false_iff_eq, Bool.not_eq_true', Bool.not_eq_false', Int.not_lt, Int.not_le, gt_iff_lt, ge_iff_le] at hs39)
              refine' TL.y rfl rfl rfl ?hy117 ?_
              case hy117 => first | exact Yl.field0 (k := 0) 2 rfl rfl Try.underlying38 rfl (by kernel_rfl) rfl | exact Yl.field (k := 0) 2 rfl rfl Try.underlying38 rfl (by kernel_rfl) rfl
              refine' TL.y rfl rfl rfl ?hy118 ?_
              case hy118 => first | exact Yl.load rfl rfl (by kernel_rfl) (Sl.nws hS (by omega)) | exact Yl.load rfl rfl (by kernel_rfl) (Hp.cell mem0 rfl) | exact Yl.load rfl rfl (by kernel_rfl) (Hp.cell mem1 rfl) | exact Yl.load rfl rfl (by kernel_rfl) (Hp.cell mem2 rfl) | exact Yl.load rfl rfl (by kernel_rfl) (Hp.cell mem3 rfl) | exact Yl.load rfl rfl (by kernel_rfl) (Hp.cell mem4 rfl) | exact Yl.load rfl rfl (by kernel_rfl) (Hp.rowAt mem0 (by omega) rfl) | exact Yl.load rfl rfl (by kernel_rfl) (Hp.rowAt mem1 (by omega) rfl) | exact Yl.load rfl rfl (by kernel_rfl) (Hp.rowAt mem2 (by omega) rfl) | exact Yl.load rfl rfl (by kernel_rfl) (Hp.rowAt mem3 (by omega) rfl) | exact Yl.load rfl rfl (by kernel_rfl) (Hp.rowAt mem4 (by omega) rfl)
              refine' TL.c rfl rfl rfl ?hy119 ?_
              case hy119 => exact Yc.call rfl Try.func27 (by kernel_rfl) rfl rfl (Hp.calls (fun w h => k_amount w _))
              intro _
              refine' TL.y rfl rfl rfl ?hy120 ?_
              case hy120 => exact Yl.not rfl rfl
              refine' TL.y rfl rfl rfl ?hy121 ?_
              case hy121 => exact Yl.pickF rfl rfl rfl
              refine TL.nil ?_
              refine TE.next ?_
              refine TC.cond rfl (fun hs44 => ?_) (fun hs44 => ?_)
              · skip
                (try simp only [decide_eq_true_eq, decide_eq_false_iff_not, beq_iff_eq, beq_eq_false_iff_ne, bne_iff_ne, ne_eq, bne_eq_false_iff_eq, Bool.not_eq_true', Bool.not_eq_false', Int.not_lt, Int.not_le, gt_iff_lt, ge_iff_le] at hs44)
                refine TC.seq ?_
                refine TC.region ?_
                refine' TL.y rfl rfl rfl ?hy122 ?_
                case hy122 => exact Yl.assign rfl rfl
                refine TL.nil ?_
                refine TE.next ?_
                refine TC.ret ?_
                refine TE.inRet ?_
                refine TE.thenRet ?_
                refine TE.thenRet ?_
                refine TE.inRet ?_
                refine TE.thenRet ?_
                refine TE.ret1 rfl rfl ?_
                exact fun w h => ⟨by rw [decide_eq_false (fun h : Vld m f => by have := (vld_iff.1 h).2 i (by omega); unfold okN at this; omega)], (h.sub (List.nil_sublist _)).below⟩
              · skip
                (try simp only [decide_eq_true_eq, decide_eq_false_iff_not, beq_iff_eq, beq_eq_false_iff_ne, bne_iff_ne, ne_eq, bne_eq_false_iff_eq, Bool.not_eq_true', Bool.not_eq_false', Int.not_lt, Int.not_le, gt_iff_lt, ge_iff_le] at hs44)
                refine TC.skip ?_
                refine TE.inNormal ?_
                refine TE.next ?_
                refine TC.region ?_
                refine' TL.y rfl rfl rfl ?hy123 ?_
                case hy123 => first | (refine Yl.val (Yl.bin rfl rfl rfl (Bin.add _ _ _ _)) (congrArg (Value.int .i64) (i64in ?_ ?_)) <;> omega) | exact Yl.bin rfl rfl rfl (Bin.add _ _ _ _)
                refine' TL.y rfl rfl rfl ?hy124 ?_
                case hy124 => exact Yl.move rfl rfl
                refine TL.nil ?_
                refine TE.round (i + 1) ?hF125 ?hlt125 ?hs125 ?hm125
                case hF125 => exact ⟨by omega, fun j hj => by
                  by_cases e : j = i
                  · subst e; unfold okN; omega
                  · exact hF j (by omega)⟩
                case hlt125 => omega
                case hs125 => exact ⟨rfl, rfl, rfl, rfl, trivial⟩
                case hm125 => exact fun w h => h.sub (List.nil_sublist _)
    · skip
      (try simp only [decide_eq_true_eq, decide_eq_false_iff_not, beq_iff_eq, beq_eq_false_iff_ne, bne_iff_ne, ne_eq, bne_eq_false_iff_eq, Bool.not_eq_true', Bool.not_eq_false', Int.not_lt, Int.not_le, gt_iff_lt, ge_iff_le] at hs9)
      refine TC.exit ?_
      refine TE.thenExit ?_
      refine TE.thenExit ?_
      refine TE.inHere ?_
      refine TE.next ?_
      refine TC.seq ?_
      refine TC.region ?_
      refine' TL.y rfl rfl rfl ?hy126 ?_
      case hy126 => exact Yl.move rfl rfl
      refine' TL.y rfl rfl rfl ?hy127 ?_
      case hy127 => exact Yl.len rfl rfl Try.underlying22
      refine' TL.y rfl rfl rfl ?hy128 ?_
      case hy128 => exact Yl.bin rfl rfl rfl (Bin.leq _ _ _ _)
      refine' TL.y rfl rfl rfl ?hy129 ?_
      case hy129 => exact Yl.assign rfl rfl
      refine TL.nil ?_
      refine TE.next ?_
      refine TC.ret ?_
      refine TE.ret1 rfl rfl ?_
      obtain rfl : i = m := by omega
      exact fun w h => ⟨by congr 2; apply decide_eq_decide.2; rw [vld_iff]; exact ⟨fun h => ⟨by omega, hF⟩, fun h => by have := h.1; omega⟩, h.below⟩
set_option maxRecDepth 100000 in
set_option maxHeartbeats 2000000 in
theorem k_rvalid (W : World) {m : Nat} {f : Nat → Nd} {A : Option Addr} {cp : Nat} (hS : Sl W A (Nw m f)) (hm : m ≤ 9223372036854775807) : Calls Try.prog 15 #[.slice A m cp] W fun e w' => e = .returned (.bool (decide (Vld m f))) ∧ Below W.heap.size W w' := by
  have hM : Hp W (fun _ => False) [] W := Hp.start
  refine TC.enter (n := 60) Try.func15 rfl rfl rfl hM ?_
  refine TC.seq ?_
  refine TC.region ?_
  refine' TL.y rfl rfl rfl ?hy1 ?_
  case hy1 => exact Yl.assign rfl rfl
  refine TL.nil ?_
  refine TE.next ?_
  refine TC.seq ?_
  refine TC.seq ?_
  refine TC.region ?_
  refine' TL.y rfl rfl rfl ?hy2 ?_
  case hy2 => exact Yl.assign rfl rfl
  refine TL.nil ?_
  refine TE.next ?_
  refine TC.block ?_
  refine TC.loop (σ := Nat) (fun i => [(0, .slice A m cp), (3, .int .i64 (i : Int))]) (fun i => Hp W (fun _ => False) []) (fun i => i ≤ m ∧ ∀ j, j < i → okN j (f j)) (fun i => m - i) 0 ?hF3 ?hs3 ?hm3 ?round3
  case hF3 => exact ⟨Nat.zero_le _, fun j hj => by omega⟩
  case hs3 => exact ⟨rfl, rfl, trivial⟩
  case hm3 => exact fun _ h => h
  case round3 =>
    rintro i ⟨hi, hF⟩
    refine TC.seq ?_
    refine TC.seq ?_
    refine TC.region ?_
    refine' TL.y rfl rfl rfl ?hy4 ?_
    case hy4 => exact Yl.move rfl rfl
    refine' TL.y rfl rfl rfl ?hy5 ?_
    case hy5 => exact Yl.move rfl rfl
    refine' TL.y rfl rfl rfl ?hy6 ?_
    case hy6 => exact Yl.len rfl rfl Try.underlying28
    refine' TL.y rfl rfl rfl ?hy7 ?_
    case hy7 => exact Yl.bin rfl rfl rfl (Bin.lss _ _ _ _)
    refine TL.nil ?_
    refine TE.next ?_
    refine TC.cond rfl (fun hs8 => ?_) (fun hs8 => ?_)
    · skip
      (try simp only [decide_eq_true_eq, decide_eq_false_iff_not, beq_iff_eq, beq_eq_false_iff_ne, bne_iff_ne, ne_eq, bne_eq_false_iff_eq, Bool.not_eq_true', Bool.not_eq_false', Int.not_lt, Int.not_le, gt_iff_lt, ge_iff_le] at hs8)
      obtain ⟨b, o, rfl⟩ := Sl.some2 hS (by rw [Nw_length]; omega)
      refine TC.skip ?_
      refine TE.next ?_
      refine TC.seq ?_
      refine TC.block ?_
      refine TC.seq ?_
      refine TC.region ?_
      refine' TL.y rfl rfl rfl ?hy8 ?_
      case hy8 => exact Yl.move rfl rfl
      refine' TL.y rfl rfl rfl ?hy9 ?_
      case hy9 => exact Yl.move rfl rfl
      refine' TL.y rfl rfl rfl ?hy10 ?_
      case hy10 => first | exact Yl.ixkn (k := 3) rfl rfl rfl Try.underlying28 (by kernel_rfl) (by omega)
      refine' TL.y rfl rfl rfl ?hy11 ?_
      case hy11 => first | exact Yl.loads rfl rfl (by kernel_rfl) (by kernel_rfl) (Sl.nws hS (by omega))
      refine' TL.mx rfl rfl rfl ?hy12 ?_
      case hy12 => exact Ym.alloc (z := .agg #[.int .i64 0, .int .i64 0, .int .i64 0]) rfl (by kernel_rfl)
      intro b4
      refine' TL.s rfl rfl ?hy13 ?_
      case hy13 => exact Ys.store (seg := [.int .i64 (f i).1, .int .i64 (f i).2.1, .int .i64 (f i).2.2]) (c' := #[.int .i64 (f i).1, .int .i64 (f i).2.1, .int .i64 (f i).2.2]) rfl rfl rfl (by simp [Value.cells]) (by kernel_rfl) (by simp [Value.oneCell']) foc0 (by simp [Value.cells]) rfl
      refine TL.nil ?_
      refine TE.next ?_
      refine TC.seq ?_
      refine TC.region ?_
      refine' TL.y rfl rfl rfl ?hy14 ?_
      case hy14 => exact Yl.move rfl rfl
      refine' TL.y rfl rfl rfl ?hy15 ?_
      case hy15 => exact Yl.bin rfl rfl rfl (Bin.eql _ _ _ _)
      refine' TL.y rfl rfl rfl ?hy16 ?_
      case hy16 => exact Yl.move rfl rfl
      refine TL.split (i := 17) rfl (fun hs17 => ?_) (fun hs17 => ?_)
      · skip
        (try simp only [decide_eq_true_eq, decide_eq_false_iff_not, beq_iff_eq, beq_eq_false_iff_ne, bne_iff_ne, ne_eq, bne_eq_false_iff_eq, Bool.not_eq_true', Bool.not_eq_false', Int.not_lt, Int.not_le, gt_iff_lt, ge_iff_le] at hs17)
        refine' TL.y rfl rfl rfl ?hy17 ?_
        case hy17 => first | exact Yl.field0 (k := 0) 0 rfl rfl Try.underlying45 rfl (by kernel_rfl) rfl | exact Yl.field (k := 0) 0 rfl rfl Try.underlying45 rfl (by kernel_rfl) rfl
        refine' TL.y rfl rfl rfl ?hy18 ?_
        case hy18 => first | exact Yl.load rfl rfl (by kernel_rfl) (Sl.nws hS (by omega)) | exact Yl.load rfl rfl (by kernel_rfl) (Hp.cell mem0 rfl) | exact Yl.load rfl rfl (by kernel_rfl) (Hp.cell mem1 rfl) | exact Yl.load rfl rfl (by kernel_rfl) (Hp.cell mem2 rfl) | exact Yl.load rfl rfl (by kernel_rfl) (Hp.cell mem3 rfl) | exact Yl.load rfl rfl (by kernel_rfl) (Hp.cell mem4 rfl) | exact Yl.load rfl rfl (by kernel_rfl) (Hp.rowAt mem0 (by omega) rfl) | exact Yl.load rfl rfl (by kernel_rfl) (Hp.rowAt mem1 (by omega) rfl) | exact Yl.load rfl rfl (by kernel_rfl) (Hp.rowAt mem2 (by omega) rfl) | exact Yl.load rfl rfl (by kernel_rfl) (Hp.rowAt mem3 (by omega) rfl) | exact Yl.load rfl rfl (by kernel_rfl) (Hp.rowAt mem4 (by omega) rfl)
        refine' TL.y rfl rfl rfl ?hy19 ?_
        case hy19 => exact Yl.bin rfl rfl rfl (Bin.neq _ _ _ _)
        refine' TL.y rfl rfl rfl ?hy20 ?_
        case hy20 => exact Yl.pickT rfl rfl rfl
        refine' TL.y rfl rfl rfl ?hy21 ?_
        case hy21 => exact Yl.move rfl rfl
        refine TL.split (i := 22) rfl (fun hs22 => ?_) (fun hs22 => ?_)
        · skip
          (try simp only [decide_eq_true_eq, decide_eq_false_iff_not, beq_iff_eq, beq_eq_false_iff_ne, bne_iff_ne, ne_eq, bne_eq_false_iff_eq, Bool.not_eq_true', Bool.not_eq_false', Int.not_lt, Int.not_le, gt_iff_lt, ge_iff_le] at hs22)
          refine TL.skip rfl rfl rfl ?_
          refine TL.skip rfl rfl rfl ?_
          refine TL.skip rfl rfl rfl ?_
          refine TL.skip rfl rfl rfl ?_
          refine TL.skip rfl rfl rfl ?_
          refine TL.skip rfl rfl rfl ?_
          refine TL.skip rfl rfl rfl ?_
          refine TL.skip rfl rfl rfl ?_
          refine TL.skip rfl rfl rfl ?_
          refine TL.skip rfl rfl rfl ?_
          refine TL.skip rfl rfl rfl ?_
          refine TL.skip rfl rfl rfl ?_
          refine TL.skip rfl rfl rfl ?_
          refine' TL.y rfl rfl rfl ?hy22 ?_
          case hy22 => exact Yl.pickT rfl rfl rfl
          refine' TL.y rfl rfl rfl ?hy23 ?_
          case hy23 => exact Yl.move rfl rfl
          refine TL.skip rfl rfl rfl ?_
          refine TL.skip rfl rfl rfl ?_
          refine TL.skip rfl rfl rfl ?_
          refine' TL.y rfl rfl rfl ?hy24 ?_
          case hy24 => exact Yl.pickT rfl rfl rfl
          refine' TL.y rfl rfl rfl ?hy25 ?_
          case hy25 => exact Yl.move rfl rfl
          refine TL.skip rfl rfl rfl ?_
          refine TL.skip rfl rfl rfl ?_
          refine TL.skip rfl rfl rfl ?_
          refine' TL.y rfl rfl rfl ?hy26 ?_
          case hy26 => exact Yl.pickT rfl rfl rfl
          refine' TL.y rfl rfl rfl ?hy27 ?_
          case hy27 => exact Yl.move rfl rfl
          refine TL.skip rfl rfl rfl ?_
          refine TL.skip rfl rfl rfl ?_
          refine TL.skip rfl rfl rfl ?_
          refine' TL.y rfl rfl rfl ?hy28 ?_
          case hy28 => exact Yl.pickT rfl rfl rfl
          refine' TL.y rfl rfl rfl ?hy29 ?_
          case hy29 => exact Yl.move rfl rfl
          refine TL.skip rfl rfl rfl ?_
          refine TL.skip rfl rfl rfl ?_
          refine TL.skip rfl rfl rfl ?_
          refine' TL.y rfl rfl rfl ?hy30 ?_
          case hy30 => exact Yl.pickT rfl rfl rfl
          refine TL.nil ?_
          refine TE.next ?_
          refine TC.yes rfl rfl ?_
          refine TC.seq ?_
          refine TC.region ?_
          refine' TL.y rfl rfl rfl ?hy31 ?_
          case hy31 => exact Yl.assign rfl rfl
          refine TL.nil ?_
          refine TE.next ?_
          refine TC.ret ?_
          refine TE.inRet ?_
          refine TE.thenRet ?_
          refine TE.thenRet ?_
          refine TE.inRet ?_
          refine TE.thenRet ?_
          refine TE.ret1 rfl rfl ?_
          exact fun w h => ⟨by rw [decide_eq_false (fun h : Vld m f => by have := (vld_iff.1 h).2 i (by omega); unfold okN at this; omega)], (h.sub (List.nil_sublist _)).below⟩
        · skip
          (try simp only [decide_eq_true_eq, decide_eq_false_iff_not, beq_iff_eq, beq_eq_false_iff_ne, bne_iff_ne, ne_eq, bne_eq_false_iff_eq, Bool.not_eq_true', Bool.not_eq_false', Int.not_lt, Int.not_le, gt_iff_lt, ge_iff_le] at hs22)
          refine' TL.y rfl rfl rfl ?hy32 ?_
          case hy32 => exact Yl.move rfl rfl
          refine' TL.y rfl rfl rfl ?hy33 ?_
          case hy33 => exact Yl.bin rfl rfl rfl (Bin.gtr _ _ _ _)
          refine' TL.y rfl rfl rfl ?hy34 ?_
          case hy34 => exact Yl.move rfl rfl
          refine TL.split (i := 25) rfl (fun hs25 => ?_) (fun hs25 => ?_)
          · skip
            (try simp only [decide_eq_true_eq, decide_eq_false_iff_not, beq_iff_eq, beq_eq_false_iff_ne, bne_iff_ne, ne_eq, bne_eq_false_iff_eq, Bool.not_eq_true', Bool.not_eq_false', Int.not_lt, Int.not_le, gt_iff_lt, ge_iff_le] at hs25)
            refine' TL.y rfl rfl rfl ?hy35 ?_
            case hy35 => first | exact Yl.field0 (k := 0) 0 rfl rfl Try.underlying45 rfl (by kernel_rfl) rfl | exact Yl.field (k := 0) 0 rfl rfl Try.underlying45 rfl (by kernel_rfl) rfl
            refine' TL.y rfl rfl rfl ?hy36 ?_
            case hy36 => first | exact Yl.load rfl rfl (by kernel_rfl) (Sl.nws hS (by omega)) | exact Yl.load rfl rfl (by kernel_rfl) (Hp.cell mem0 rfl) | exact Yl.load rfl rfl (by kernel_rfl) (Hp.cell mem1 rfl) | exact Yl.load rfl rfl (by kernel_rfl) (Hp.cell mem2 rfl) | exact Yl.load rfl rfl (by kernel_rfl) (Hp.cell mem3 rfl) | exact Yl.load rfl rfl (by kernel_rfl) (Hp.cell mem4 rfl) | exact Yl.load rfl rfl (by kernel_rfl) (Hp.rowAt mem0 (by omega) rfl) | exact Yl.load rfl rfl (by kernel_rfl) (Hp.rowAt mem1 (by omega) rfl) | exact Yl.load rfl rfl (by kernel_rfl) (Hp.rowAt mem2 (by omega) rfl) | exact Yl.load rfl rfl (by kernel_rfl) (Hp.rowAt mem3 (by omega) rfl) | exact Yl.load rfl rfl (by kernel_rfl) (Hp.rowAt mem4 (by omega) rfl)
            refine' TL.y rfl rfl rfl ?hy37 ?_
            case hy37 => exact Yl.bin rfl rfl rfl (Bin.lss _ _ _ _)
            refine' TL.y rfl rfl rfl ?hy38 ?_
            case hy38 => exact Yl.move rfl rfl
            refine TL.split (i := 29) rfl (fun hs29 => ?_) (fun hs29 => ?_)
            · skip
              (try simp only [decide_eq_true_eq, decide_eq_false_iff_not, beq_iff_eq, beq_eq_false_iff_ne, bne_iff_ne, ne_eq, bne_eq_false_iff_eq, Bool.not_eq_true', Bool.not_eq_false', Int.not_lt, Int.not_le, gt_iff_lt, ge_iff_le] at hs29)
              refine TL.skip rfl rfl rfl ?_
              refine TL.skip rfl rfl rfl ?_
              refine TL.skip rfl rfl rfl ?_
              refine TL.skip rfl rfl rfl ?_
              refine' TL.y rfl rfl rfl ?hy39 ?_
              case hy39 => exact Yl.pickT rfl rfl rfl
              refine' TL.y rfl rfl rfl ?hy40 ?_
              case hy40 => exact Yl.pickT rfl rfl rfl
              refine' TL.y rfl rfl rfl ?hy41 ?_
              case hy41 => exact Yl.pickF rfl rfl rfl
              refine' TL.y rfl rfl rfl ?hy42 ?_
              case hy42 => exact Yl.move rfl rfl
              refine TL.skip rfl rfl rfl ?_
              refine TL.skip rfl rfl rfl ?_
              refine TL.skip rfl rfl rfl ?_
              refine' TL.y rfl rfl rfl ?hy43 ?_
              case hy43 => exact Yl.pickT rfl rfl rfl
              refine' TL.y rfl rfl rfl ?hy44 ?_
              case hy44 => exact Yl.move rfl rfl
              refine TL.skip rfl rfl rfl ?_
              refine TL.skip rfl rfl rfl ?_
              refine TL.skip rfl rfl rfl ?_
              refine' TL.y rfl rfl rfl ?hy45 ?_
              case hy45 => exact Yl.pickT rfl rfl rfl
              refine' TL.y rfl rfl rfl ?hy46 ?_
              case hy46 => exact Yl.move rfl rfl
              refine TL.skip rfl rfl rfl ?_
              refine TL.skip rfl rfl rfl ?_
              refine TL.skip rfl rfl rfl ?_
              refine' TL.y rfl rfl rfl ?hy47 ?_
              case hy47 => exact Yl.pickT rfl rfl rfl
              refine' TL.y rfl rfl rfl ?hy48 ?_
              case hy48 => exact Yl.move rfl rfl
              refine TL.skip rfl rfl rfl ?_
              refine TL.skip rfl rfl rfl ?_
              refine TL.skip rfl rfl rfl ?_
              refine' TL.y rfl rfl rfl ?hy49 ?_
              case hy49 => exact Yl.pickT rfl rfl rfl
              refine TL.nil ?_
              refine TE.next ?_
              refine TC.yes rfl rfl ?_
              refine TC.seq ?_
              refine TC.region ?_
              refine' TL.y rfl rfl rfl ?hy50 ?_
              case hy50 => exact Yl.assign rfl rfl
              refine TL.nil ?_
              refine TE.next ?_
              refine TC.ret ?_
              refine TE.inRet ?_
              refine TE.thenRet ?_
              refine TE.thenRet ?_
              refine TE.inRet ?_
              refine TE.thenRet ?_
              refine TE.ret1 rfl rfl ?_
              exact fun w h => ⟨by rw [decide_eq_false (fun h : Vld m f => by have := (vld_iff.1 h).2 i (by omega); unfold okN at this; omega)], (h.sub (List.nil_sublist _)).below⟩
            · skip
              (try simp only [decide_eq_true_eq, decide_eq_false_iff_not, beq_iff_eq, beq_eq_false_iff_ne, bne_iff_ne, ne_eq, bne_eq_false_iff_eq, Bool.not_eq_true', Bool.not_eq_false', Int.not_lt, Int.not_le, gt_iff_lt, ge_iff_le] at hs29)
              refine' TL.y rfl rfl rfl ?hy51 ?_
              case hy51 => first | exact Yl.field0 (k := 0) 0 rfl rfl Try.underlying45 rfl (by kernel_rfl) rfl | exact Yl.field (k := 0) 0 rfl rfl Try.underlying45 rfl (by kernel_rfl) rfl
              refine' TL.y rfl rfl rfl ?hy52 ?_
              case hy52 => first | exact Yl.load rfl rfl (by kernel_rfl) (Sl.nws hS (by omega)) | exact Yl.load rfl rfl (by kernel_rfl) (Hp.cell mem0 rfl) | exact Yl.load rfl rfl (by kernel_rfl) (Hp.cell mem1 rfl) | exact Yl.load rfl rfl (by kernel_rfl) (Hp.cell mem2 rfl) | exact Yl.load rfl rfl (by kernel_rfl) (Hp.cell mem3 rfl) | exact Yl.load rfl rfl (by kernel_rfl) (Hp.cell mem4 rfl) | exact Yl.load rfl rfl (by kernel_rfl) (Hp.rowAt mem0 (by omega) rfl) | exact Yl.load rfl rfl (by kernel_rfl) (Hp.rowAt mem1 (by omega) rfl) | exact Yl.load rfl rfl (by kernel_rfl) (Hp.rowAt mem2 (by omega) rfl) | exact Yl.load rfl rfl (by kernel_rfl) (Hp.rowAt mem3 (by omega) rfl) | exact Yl.load rfl rfl (by kernel_rfl) (Hp.rowAt mem4 (by omega) rfl)
              refine' TL.y rfl rfl rfl ?hy53 ?_
              case hy53 => exact Yl.move rfl rfl
              refine' TL.y rfl rfl rfl ?hy54 ?_
              case hy54 => exact Yl.bin rfl rfl rfl (Bin.geq _ _ _ _)
              refine' TL.y rfl rfl rfl ?hy55 ?_
              case hy55 => exact Yl.pickF rfl rfl rfl
              refine' TL.y rfl rfl rfl ?hy56 ?_
              case hy56 => exact Yl.pickT rfl rfl rfl
              refine' TL.y rfl rfl rfl ?hy57 ?_
              case hy57 => exact Yl.pickF rfl rfl rfl
              refine' TL.y rfl rfl rfl ?hy58 ?_
              case hy58 => exact Yl.move rfl rfl
              refine TL.split (i := 37) rfl (fun hs37 => ?_) (fun hs37 => ?_)
              · skip
                (try simp only [decide_eq_true_eq, decide_eq_false_iff_not, beq_iff_eq, beq_eq_false_iff_ne, bne_iff_ne, ne_eq, bne_eq_false_iff_eq, Bool.not_eq_true', Bool.not_eq_false', Int.not_lt, Int.not_le, gt_iff_lt, ge_iff_le] at hs37)
                refine TL.skip rfl rfl rfl ?_
                refine TL.skip rfl rfl rfl ?_
                refine TL.skip rfl rfl rfl ?_
                refine' TL.y rfl rfl rfl ?hy59 ?_
                case hy59 => exact Yl.pickT rfl rfl rfl
                refine' TL.y rfl rfl rfl ?hy60 ?_
                case hy60 => exact Yl.move rfl rfl
                refine TL.skip rfl rfl rfl ?_
                refine TL.skip rfl rfl rfl ?_
                refine TL.skip rfl rfl rfl ?_
                refine' TL.y rfl rfl rfl ?hy61 ?_
                case hy61 => exact Yl.pickT rfl rfl rfl
                refine' TL.y rfl rfl rfl ?hy62 ?_
                case hy62 => exact Yl.move rfl rfl
                refine TL.skip rfl rfl rfl ?_
                refine TL.skip rfl rfl rfl ?_
                refine TL.skip rfl rfl rfl ?_
                refine' TL.y rfl rfl rfl ?hy63 ?_
                case hy63 => exact Yl.pickT rfl rfl rfl
                refine' TL.y rfl rfl rfl ?hy64 ?_
                case hy64 => exact Yl.move rfl rfl
                refine TL.skip rfl rfl rfl ?_
                refine TL.skip rfl rfl rfl ?_
                refine TL.skip rfl rfl rfl ?_
                refine' TL.y rfl rfl rfl ?hy65 ?_
                case hy65 => exact Yl.pickT rfl rfl rfl
                refine TL.nil ?_
                refine TE.next ?_
                refine TC.yes rfl rfl ?_
                refine TC.seq ?_
                refine TC.region ?_
                refine' TL.y rfl rfl rfl ?hy66 ?_
                case hy66 => exact Yl.assign rfl rfl
                refine TL.nil ?_
                refine TE.next ?_
                refine TC.ret ?_
                refine TE.inRet ?_
                refine TE.thenRet ?_
                refine TE.thenRet ?_
                refine TE.inRet ?_
                refine TE.thenRet ?_
                refine TE.ret1 rfl rfl ?_
                exact fun w h => ⟨by rw [decide_eq_false (fun h : Vld m f => by have := (vld_iff.1 h).2 i (by omega); unfold okN at this; omega)], (h.sub (List.nil_sublist _)).below⟩
              · skip
                (try simp only [decide_eq_true_eq, decide_eq_false_iff_not, beq_iff_eq, beq_eq_false_iff_ne, bne_iff_ne, ne_eq, bne_eq_false_iff_eq, Bool.not_eq_true', Bool.not_eq_false', Int.not_lt, Int.not_le, gt_iff_lt, ge_iff_le] at hs37)
                refine' TL.y rfl rfl rfl ?hy67 ?_
                case hy67 => first | exact Yl.field0 (k := 0) 1 rfl rfl Try.underlying45 rfl (by kernel_rfl) rfl | exact Yl.field (k := 0) 1 rfl rfl Try.underlying45 rfl (by kernel_rfl) rfl
                refine' TL.y rfl rfl rfl ?hy68 ?_
                case hy68 => first | exact Yl.load rfl rfl (by kernel_rfl) (Sl.nws hS (by omega)) | exact Yl.load rfl rfl (by kernel_rfl) (Hp.cell mem0 rfl) | exact Yl.load rfl rfl (by kernel_rfl) (Hp.cell mem1 rfl) | exact Yl.load rfl rfl (by kernel_rfl) (Hp.cell mem2 rfl) | exact Yl.load rfl rfl (by kernel_rfl) (Hp.cell mem3 rfl) | exact Yl.load rfl rfl (by kernel_rfl) (Hp.cell mem4 rfl) | exact Yl.load rfl rfl (by kernel_rfl) (Hp.rowAt mem0 (by omega) rfl) | exact Yl.load rfl rfl (by kernel_rfl) (Hp.rowAt mem1 (by omega) rfl) | exact Yl.load rfl rfl (by kernel_rfl) (Hp.rowAt mem2 (by omega) rfl) | exact Yl.load rfl rfl (by kernel_rfl) (Hp.rowAt mem3 (by omega) rfl) | exact Yl.load rfl rfl (by kernel_rfl) (Hp.rowAt mem4 (by omega) rfl)
                refine' TL.y rfl rfl rfl ?hy69 ?_
                case hy69 => exact Yl.bin rfl rfl rfl (Bin.lss _ _ _ _)
                refine' TL.y rfl rfl rfl ?hy70 ?_
                case hy70 => exact Yl.pickF rfl rfl rfl
                refine' TL.y rfl rfl rfl ?hy71 ?_
                case hy71 => exact Yl.move rfl rfl
                refine TL.split (i := 42) rfl (fun hs42 => ?_) (fun hs42 => ?_)
                · skip
                  (try simp only [decide_eq_true_eq, decide_eq_false_iff_not, beq_iff_eq, beq_eq_false_iff_ne, bne_iff_ne, ne_eq, bne_eq_false_iff_eq, Bool.not_eq_true', Bool.not_eq_false', Int.not_lt, Int.not_le, gt_iff_lt, ge_iff_le] at hs42)
                  refine TL.skip rfl rfl rfl ?_
                  refine TL.skip rfl rfl rfl ?_
                  refine TL.skip rfl rfl rfl ?_
                  refine' TL.y rfl rfl rfl ?hy72 ?_
                  case hy72 => exact Yl.pickT rfl rfl rfl
                  refine' TL.y rfl rfl rfl ?hy73 ?_
                  case hy73 => exact Yl.move rfl rfl
                  refine TL.skip rfl rfl rfl ?_
                  refine TL.skip rfl rfl rfl ?_
                  refine TL.skip rfl rfl rfl ?_
                  refine' TL.y rfl rfl rfl ?hy74 ?_
                  case hy74 => exact Yl.pickT rfl rfl rfl
                  refine' TL.y rfl rfl rfl ?hy75 ?_
                  case hy75 => exact Yl.move rfl rfl
                  refine TL.skip rfl rfl rfl ?_
                  refine TL.skip rfl rfl rfl ?_
                  refine TL.skip rfl rfl rfl ?_
                  refine' TL.y rfl rfl rfl ?hy76 ?_
                  case hy76 => exact Yl.pickT rfl rfl rfl
                  refine TL.nil ?_
                  refine TE.next ?_
                  refine TC.yes rfl rfl ?_
                  refine TC.seq ?_
                  refine TC.region ?_
                  refine' TL.y rfl rfl rfl ?hy77 ?_
                  case hy77 => exact Yl.assign rfl rfl
                  refine TL.nil ?_
                  refine TE.next ?_
                  refine TC.ret ?_
                  refine TE.inRet ?_
                  refine TE.thenRet ?_
                  refine TE.thenRet ?_
                  refine TE.inRet ?_
                  refine TE.thenRet ?_
                  refine TE.ret1 rfl rfl ?_
                  exact fun w h => ⟨by rw [decide_eq_false (fun h : Vld m f => by have := (vld_iff.1 h).2 i (by omega); unfold okN at this; omega)], (h.sub (List.nil_sublist _)).below⟩
                · skip
                  (try simp only [decide_eq_true_eq, decide_eq_false_iff_not, beq_iff_eq, beq_eq_false_iff_ne, bne_iff_ne, ne_eq, bne_eq_false_iff_eq, Bool.not_eq_true', Bool.not_eq_false', Int.not_lt, Int.not_le, gt_iff_lt, ge_iff_le] at hs42)
                  refine' TL.y rfl rfl rfl ?hy78 ?_
                  case hy78 => first | exact Yl.field0 (k := 0) 1 rfl rfl Try.underlying45 rfl (by kernel_rfl) rfl | exact Yl.field (k := 0) 1 rfl rfl Try.underlying45 rfl (by kernel_rfl) rfl
                  refine' TL.y rfl rfl rfl ?hy79 ?_
                  case hy79 => first | exact Yl.load rfl rfl (by kernel_rfl) (Sl.nws hS (by omega)) | exact Yl.load rfl rfl (by kernel_rfl) (Hp.cell mem0 rfl) | exact Yl.load rfl rfl (by kernel_rfl) (Hp.cell mem1 rfl) | exact Yl.load rfl rfl (by kernel_rfl) (Hp.cell mem2 rfl) | exact Yl.load rfl rfl (by kernel_rfl) (Hp.cell mem3 rfl) | exact Yl.load rfl rfl (by kernel_rfl) (Hp.cell mem4 rfl) | exact Yl.load rfl rfl (by kernel_rfl) (Hp.rowAt mem0 (by omega) rfl) | exact Yl.load rfl rfl (by kernel_rfl) (Hp.rowAt mem1 (by omega) rfl) | exact Yl.load rfl rfl (by kernel_rfl) (Hp.rowAt mem2 (by omega) rfl) | exact Yl.load rfl rfl (by kernel_rfl) (Hp.rowAt mem3 (by omega) rfl) | exact Yl.load rfl rfl (by kernel_rfl) (Hp.rowAt mem4 (by omega) rfl)
                  refine' TL.y rfl rfl rfl ?hy80 ?_
                  case hy80 => exact Yl.bin rfl rfl rfl (Bin.gtr _ _ _ _)
                  refine' TL.y rfl rfl rfl ?hy81 ?_
                  case hy81 => exact Yl.pickF rfl rfl rfl
                  refine' TL.y rfl rfl rfl ?hy82 ?_
                  case hy82 => exact Yl.move rfl rfl
                  refine TL.split (i := 47) rfl (fun hs47 => ?_) (fun hs47 => ?_)
                  · skip
                    (try simp only [decide_eq_true_eq, decide_eq_false_iff_not, beq_iff_eq, beq_eq_false_iff_ne, bne_iff_ne, ne_eq, bne_eq_false_iff_eq, Bool.not_eq_true', Bool.not_eq_false', Int.not_lt, Int.not_le, gt_iff_lt, ge_iff_le] at hs47)
                    refine TL.skip rfl rfl rfl ?_
                    refine TL.skip rfl rfl rfl ?_
                    refine TL.skip rfl rfl rfl ?_
                    refine' TL.y rfl rfl rfl ?hy83 ?_
                    case hy83 => exact Yl.pickT rfl rfl rfl
                    refine' TL.y rfl rfl rfl ?hy84 ?_
                    case hy84 => exact Yl.move rfl rfl
                    refine TL.skip rfl rfl rfl ?_
                    refine TL.skip rfl rfl rfl ?_
                    refine TL.skip rfl rfl rfl ?_
                    refine' TL.y rfl rfl rfl ?hy85 ?_
                    case hy85 => exact Yl.pickT rfl rfl rfl
                    refine TL.nil ?_
                    refine TE.next ?_
                    refine TC.yes rfl rfl ?_
                    refine TC.seq ?_
                    refine TC.region ?_
                    refine' TL.y rfl rfl rfl ?hy86 ?_
                    case hy86 => exact Yl.assign rfl rfl
                    refine TL.nil ?_
                    refine TE.next ?_
                    refine TC.ret ?_
                    refine TE.inRet ?_
                    refine TE.thenRet ?_
                    refine TE.thenRet ?_
                    refine TE.inRet ?_
                    refine TE.thenRet ?_
                    refine TE.ret1 rfl rfl ?_
                    exact fun w h => ⟨by rw [decide_eq_false (fun h : Vld m f => by have := (vld_iff.1 h).2 i (by omega); unfold okN at this; omega)], (h.sub (List.nil_sublist _)).below⟩
                  · skip
                    (try simp only [decide_eq_true_eq, decide_eq_false_iff_not, beq_iff_eq, beq_eq_false_iff_ne, bne_iff_ne, ne_eq, bne_eq_false_iff_eq, Bool.not_eq_true', Bool.not_eq_false', Int.not_lt, Int.not_le, gt_iff_lt, ge_iff_le] at hs47)
                    refine' TL.y rfl rfl rfl ?hy87 ?_
                    case hy87 => first | exact Yl.field0 (k := 0) 2 rfl rfl Try.underlying45 rfl (by kernel_rfl) rfl | exact Yl.field (k := 0) 2 rfl rfl Try.underlying45 rfl (by kernel_rfl) rfl
                    refine' TL.y rfl rfl rfl ?hy88 ?_
                    case hy88 => first | exact Yl.load rfl rfl (by kernel_rfl) (Sl.nws hS (by omega)) | exact Yl.load rfl rfl (by kernel_rfl) (Hp.cell mem0 rfl) | exact Yl.load rfl rfl (by kernel_rfl) (Hp.cell mem1 rfl) | exact Yl.load rfl rfl (by kernel_rfl) (Hp.cell mem2 rfl) | exact Yl.load rfl rfl (by kernel_rfl) (Hp.cell mem3 rfl) | exact Yl.load rfl rfl (by kernel_rfl) (Hp.cell mem4 rfl) | exact Yl.load rfl rfl (by kernel_rfl) (Hp.rowAt mem0 (by omega) rfl) | exact Yl.load rfl rfl (by kernel_rfl) (Hp.rowAt mem1 (by omega) rfl) | exact Yl.load rfl rfl (by kernel_rfl) (Hp.rowAt mem2 (by omega) rfl) | exact Yl.load rfl rfl (by kernel_rfl) (Hp.rowAt mem3 (by omega) rfl) | exact Yl.load rfl rfl (by kernel_rfl) (Hp.rowAt mem4 (by omega) rfl)
                    refine' TL.y rfl rfl rfl ?hy89 ?_
                    case hy89 => exact Yl.bin rfl rfl rfl (Bin.lss _ _ _ _)
                    refine' TL.y rfl rfl rfl ?hy90 ?_
                    case hy90 => exact Yl.pickF rfl rfl rfl
                    refine' TL.y rfl rfl rfl ?hy91 ?_
                    case hy91 => exact Yl.move rfl rfl
                    refine TL.split (i := 52) rfl (fun hs52 => ?_) (fun hs52 => ?_)
                    · skip
                      (try simp only [decide_eq_true_eq, decide_eq_false_iff_not, beq_iff_eq, beq_eq_false_iff_ne, bne_iff_ne, ne_eq, bne_eq_false_iff_eq, Bool.not_eq_true', Bool.not_eq_false', Int.not_lt, Int.not_le, gt_iff_lt, ge_iff_le] at hs52)
                      refine TL.skip rfl rfl rfl ?_
                      refine TL.skip rfl rfl rfl ?_
                      refine TL.skip rfl rfl rfl ?_
                      refine' TL.y rfl rfl rfl ?hy92 ?_
                      case hy92 => exact Yl.pickT rfl rfl rfl
                      refine TL.nil ?_
                      refine TE.next ?_
                      refine TC.yes rfl rfl ?_
                      refine TC.seq ?_
                      refine TC.region ?_
                      refine' TL.y rfl rfl rfl ?hy93 ?_
                      case hy93 => exact Yl.assign rfl rfl
                      refine TL.nil ?_
                      refine TE.next ?_
                      refine TC.ret ?_
                      refine TE.inRet ?_
                      refine TE.thenRet ?_
                      refine TE.thenRet ?_
                      refine TE.inRet ?_
                      refine TE.thenRet ?_
                      refine TE.ret1 rfl rfl ?_
                      exact fun w h => ⟨by rw [decide_eq_false (fun h : Vld m f => by have := (vld_iff.1 h).2 i (by omega); unfold okN at this; omega)], (h.sub (List.nil_sublist _)).below⟩
                    · skip
                      (try simp only [decide_eq_true_eq, decide_eq_false_iff_not, beq_iff_eq, beq_eq_false_iff_ne, bne_iff_ne, ne_eq, bne_eq_false_iff_eq, Bool.not_eq_true', Bool.not_eq_false', Int.not_lt, Int.not_le, gt_iff_lt, ge_iff_le] at hs52)
                      refine' TL.y rfl rfl rfl ?hy94 ?_
                      case hy94 => first | exact Yl.field0 (k := 0) 2 rfl rfl Try.underlying45 rfl (by kernel_rfl) rfl | exact Yl.field (k := 0) 2 rfl rfl Try.underlying45 rfl (by kernel_rfl) rfl
                      refine' TL.y rfl rfl rfl ?hy95 ?_
                      case hy95 => first | exact Yl.load rfl rfl (by kernel_rfl) (Sl.nws hS (by omega)) | exact Yl.load rfl rfl (by kernel_rfl) (Hp.cell mem0 rfl) | exact Yl.load rfl rfl (by kernel_rfl) (Hp.cell mem1 rfl) | exact Yl.load rfl rfl (by kernel_rfl) (Hp.cell mem2 rfl) | exact Yl.load rfl rfl (by kernel_rfl) (Hp.cell mem3 rfl) | exact Yl.load rfl rfl (by kernel_rfl) (Hp.cell mem4 rfl) | exact Yl.load rfl rfl (by kernel_rfl) (Hp.rowAt mem0 (by omega) rfl) | exact Yl.load rfl rfl (by kernel_rfl) (Hp.rowAt mem1 (by omega) rfl) | exact Yl.load rfl rfl (by kernel_rfl) (Hp.rowAt mem2 (by omega) rfl) | exact Yl.load rfl rfl (by kernel_rfl) (Hp.rowAt mem3 (by omega) rfl) | exact Yl.load rfl rfl (by kernel_rfl) (Hp.rowAt mem4 (by omega) rfl)
                      refine' TL.y rfl rfl rfl ?hy96 ?_
                      case hy96 => exact Yl.bin rfl rfl rfl (Bin.gtr _ _ _ _)
                      refine' TL.y rfl rfl rfl ?hy97 ?_
                      case hy97 => exact Yl.pickF rfl rfl rfl
                      refine TL.nil ?_
                      refine TE.next ?_
                      refine TC.cond rfl (fun hs56 => ?_) (fun hs56 => ?_)
                      · skip
                        (try simp only [decide_eq_true_eq, decide_eq_false_iff_not, beq_iff_eq, beq_eq_false_iff_ne, bne_iff_ne, ne_eq, bne_eq_false_iff_eq, Bool.not_eq_true', Bool.not_eq_false', Int.not_lt, Int.not_le, gt_iff_lt, ge_iff_le] at hs56)
                        refine TC.seq ?_
                        refine TC.region ?_
                        refine' TL.y rfl rfl rfl ?hy98 ?_
                        case hy98 => exact Yl.assign rfl rfl
                        refine TL.nil ?_
                        refine TE.next ?_
                        refine TC.ret ?_
                        refine TE.inRet ?_
                        refine TE.thenRet ?_
                        refine TE.thenRet ?_
                        refine TE.inRet ?_
                        refine TE.thenRet ?_
                        refine TE.ret1 rfl rfl ?_
                        exact fun w h => ⟨by rw [decide_eq_false (fun h : Vld m f => by have := (vld_iff.1 h).2 i (by omega); unfold okN at this; omega)], (h.sub (List.nil_sublist _)).below⟩
                      · skip
                        (try simp only [decide_eq_true_eq, decide_eq_false_iff_not, beq_iff_eq, beq_eq_false_iff_ne, bne_iff_ne, ne_eq, bne_eq_false_iff_eq, Bool.not_eq_true', Bool.not_eq_false', Int.not_lt, Int.not_le, gt_iff_lt, ge_iff_le] at hs56)
                        refine TC.skip ?_
                        refine TE.inNormal ?_
                        refine TE.next ?_
                        refine TC.region ?_
                        refine' TL.y rfl rfl rfl ?hy99 ?_
                        case hy99 => exact Yl.move rfl rfl
                        refine' TL.y rfl rfl rfl ?hy100 ?_
                        case hy100 => first | (refine Yl.val (Yl.bin rfl rfl rfl (Bin.add _ _ _ _)) (congrArg (Value.int .i64) (i64in ?_ ?_)) <;> omega) | exact Yl.bin rfl rfl rfl (Bin.add _ _ _ _)
                        refine' TL.y rfl rfl rfl ?hy101 ?_
                        case hy101 => exact Yl.assign rfl rfl
                        refine TL.nil ?_
                        refine TE.round (i + 1) ?hF102 ?hlt102 ?hs102 ?hm102
                        case hF102 => exact ⟨by omega, fun j hj => by
                          by_cases e : j = i
                          · subst e; unfold okN; omega
                          · exact hF j (by omega)⟩
                        case hlt102 => omega
                        case hs102 => exact ⟨rfl, rfl, trivial⟩
                        case hm102 => exact fun w h => h.sub (List.nil_sublist _)
          · skip
            (try simp only [decide_eq_true_eq, decide_eq_false_iff_not, beq_iff_eq, beq_eq_false_iff_ne, bne_iff_ne, ne_eq, bne_eq_false_iff_eq, Bool.not_eq_true', Bool.not_eq_false', Int.not_lt, Int.not_le, gt_iff_lt, ge_iff_le] at hs25)
            refine TL.skip rfl rfl rfl ?_
            refine TL.skip rfl rfl rfl ?_
            refine TL.skip rfl rfl rfl ?_
            refine TL.skip rfl rfl rfl ?_
            refine TL.skip rfl rfl rfl ?_
            refine TL.skip rfl rfl rfl ?_
            refine TL.skip rfl rfl rfl ?_
            refine TL.skip rfl rfl rfl ?_
            refine TL.skip rfl rfl rfl ?_
            refine' TL.y rfl rfl rfl ?hy103 ?_
            case hy103 => exact Yl.pickF rfl rfl rfl
            refine' TL.y rfl rfl rfl ?hy104 ?_
            case hy104 => exact Yl.pickF rfl rfl rfl
            refine' TL.y rfl rfl rfl ?hy105 ?_
            case hy105 => exact Yl.move rfl rfl
            refine' TL.y rfl rfl rfl ?hy106 ?_
            case hy106 => first | exact Yl.field0 (k := 0) 1 rfl rfl Try.underlying45 rfl (by kernel_rfl) rfl | exact Yl.field (k := 0) 1 rfl rfl Try.underlying45 rfl (by kernel_rfl) rfl
            refine' TL.y rfl rfl rfl ?hy107 ?_
            case hy107 => first | exact Yl.load rfl rfl (by kernel_rfl) (Sl.nws hS (by omega)) | exact Yl.load rfl rfl (by kernel_rfl) (Hp.cell mem0 rfl) | exact Yl.load rfl rfl (by kernel_rfl) (Hp.cell mem1 rfl) | exact Yl.load rfl rfl (by kernel_rfl) (Hp.cell mem2 rfl) | exact Yl.load rfl rfl (by kernel_rfl) (Hp.cell mem3 rfl) | exact Yl.load rfl rfl (by kernel_rfl) (Hp.cell mem4 rfl) | exact Yl.load rfl rfl (by kernel_rfl) (Hp.rowAt mem0 (by omega) rfl) | exact Yl.load rfl rfl (by kernel_rfl) (Hp.rowAt mem1 (by omega) rfl) | exact Yl.load rfl rfl (by kernel_rfl) (Hp.rowAt mem2 (by omega) rfl) | exact Yl.load rfl rfl (by kernel_rfl) (Hp.rowAt mem3 (by omega) rfl) | exact Yl.load rfl rfl (by kernel_rfl) (Hp.rowAt mem4 (by omega) rfl)
            refine' TL.y rfl rfl rfl ?hy108 ?_
            case hy108 => exact Yl.bin rfl rfl rfl (Bin.lss _ _ _ _)
            refine' TL.y rfl rfl rfl ?hy109 ?_
            case hy109 => exact Yl.pickF rfl rfl rfl
            refine' TL.y rfl rfl rfl ?hy110 ?_
            case hy110 => exact Yl.move rfl rfl
            refine TL.split (i := 42) rfl (fun hs42 => ?_) (fun hs42 => ?_)
            · skip
              (try simp only [decide_eq_true_eq, decide_eq_false_iff_not, beq_iff_eq, beq_eq_false_iff_ne, bne_iff_ne, ne_eq, bne_eq_false_iff_eq, Bool.not_eq_true', Bool.not_eq_false', Int.not_lt, Int.not_le, gt_iff_lt, ge_iff_le] at hs42)
              refine TL.skip rfl rfl rfl ?_
              refine TL.skip rfl rfl rfl ?_
              refine TL.skip rfl rfl rfl ?_
              refine' TL.y rfl rfl rfl ?hy111 ?_
              case hy111 => exact Yl.pickT rfl rfl rfl
              refine' TL.y rfl rfl rfl ?hy112 ?_
              case hy112 => exact Yl.move rfl rfl
              refine TL.skip rfl rfl rfl ?_
              refine TL.skip rfl rfl rfl ?_
              refine TL.skip rfl rfl rfl ?_
              refine' TL.y rfl rfl rfl ?hy113 ?_
              case hy113 => exact Yl.pickT rfl rfl rfl
              refine' TL.y rfl rfl rfl ?hy114 ?_
              case hy114 => exact Yl.move rfl rfl
              refine TL.skip rfl rfl rfl ?_
              refine TL.skip rfl rfl rfl ?_
              refine TL.skip rfl rfl rfl ?_
              refine' TL.y rfl rfl rfl ?hy115 ?_
              case hy115 => exact Yl.pickT rfl rfl rfl
              refine TL.nil ?_
              refine TE.next ?_
              refine TC.yes rfl rfl ?_
              refine TC.seq ?_
              refine TC.region ?_
              refine' TL.y rfl rfl rfl ?hy116 ?_
              case hy116 => exact Yl.assign rfl rfl
              refine TL.nil ?_
              refine TE.next ?_
              refine TC.ret ?_
              refine TE.inRet ?_
              refine TE.thenRet ?_
              refine TE.thenRet ?_
              refine TE.inRet ?_
              refine TE.thenRet ?_
              refine TE.ret1 rfl rfl ?_
              exact fun w h => ⟨by rw [decide_eq_false (fun h : Vld m f => by have := (vld_iff.1 h).2 i (by omega); unfold okN at this; omega)], (h.sub (List.nil_sublist _)).below⟩
            · skip
              (try simp only [decide_eq_true_eq, decide_eq_false_iff_not, beq_iff_eq, beq_eq_false_iff_ne, bne_iff_ne, ne_eq, bne_eq_false_iff_eq, Bool.not_eq_true', Bool.not_eq_false', Int.not_lt, Int.not_le, gt_iff_lt, ge_iff_le] at hs42)
              refine' TL.y rfl rfl rfl ?hy117 ?_
              case hy117 => first | exact Yl.field0 (k := 0) 1 rfl rfl Try.underlying45 rfl (by kernel_rfl) rfl | exact Yl.field (k := 0) 1 rfl rfl Try.underlying45 rfl (by kernel_rfl) rfl
              refine' TL.y rfl rfl rfl ?hy118 ?_
              case hy118 => first | exact Yl.load rfl rfl (by kernel_rfl) (Sl.nws hS (by omega)) | exact Yl.load rfl rfl (by kernel_rfl) (Hp.cell mem0 rfl) | exact Yl.load rfl rfl (by kernel_rfl) (Hp.cell mem1 rfl) | exact Yl.load rfl rfl (by kernel_rfl) (Hp.cell mem2 rfl) | exact Yl.load rfl rfl (by kernel_rfl) (Hp.cell mem3 rfl) | exact Yl.load rfl rfl (by kernel_rfl) (Hp.cell mem4 rfl) | exact Yl.load rfl rfl (by kernel_rfl) (Hp.rowAt mem0 (by omega) rfl) | exact Yl.load rfl rfl (by kernel_rfl) (Hp.rowAt mem1 (by omega) rfl) | exact Yl.load rfl rfl (by kernel_rfl) (Hp.rowAt mem2 (by omega) rfl) | exact Yl.load rfl rfl (by kernel_rfl) (Hp.rowAt mem3 (by omega) rfl) | exact Yl.load rfl rfl (by kernel_rfl) (Hp.rowAt mem4 (by omega) rfl)
              refine' TL.y rfl rfl rfl ?hy119 ?_
              case hy119 => exact Yl.bin rfl rfl rfl (Bin.gtr _ _ _ _)
              refine' TL.y rfl rfl rfl ?hy120 ?_
              case hy120 => exact Yl.pickF rfl rfl rfl
              refine' TL.y rfl rfl rfl ?hy121 ?_
              case hy121 => exact Yl.move rfl rfl
              refine TL.split (i := 47) rfl (fun hs47 => ?_) (fun hs47 => ?_)
              · skip
                (try simp only [decide_eq_true_eq, decide_eq_false_iff_not, beq_iff_eq, beq_eq_false_iff_ne, bne_iff_ne, ne_eq, bne_eq_false_iff_eq, Bool.not_eq_true', Bool.not_eq_false', Int.not_lt, Int.not_le, gt_iff_lt, ge_iff_le] at hs47)
                refine TL.skip rfl rfl rfl ?_
                refine TL.skip rfl rfl rfl ?_
                refine TL.skip rfl rfl rfl ?_
                refine' TL.y rfl rfl rfl ?hy122 ?_
                case hy122 => exact Yl.pickT rfl rfl rfl
                refine' TL.y rfl rfl rfl ?hy123 ?_
                case hy123 => exact Yl.move rfl rfl
                refine TL.skip rfl rfl rfl ?_
                refine TL.skip rfl rfl rfl ?_
                refine TL.skip rfl rfl rfl ?_
                refine' TL.y rfl rfl rfl ?hy124 ?_
                case hy124 => exact Yl.pickT rfl rfl rfl
                refine TL.nil ?_
                refine TE.next ?_
                refine TC.yes rfl rfl ?_
                refine TC.seq ?_
                refine TC.region ?_
                refine' TL.y rfl rfl rfl ?hy125 ?_
                case hy125 => exact Yl.assign rfl rfl
                refine TL.nil ?_
                refine TE.next ?_
                refine TC.ret ?_
                refine TE.inRet ?_
                refine TE.thenRet ?_
                refine TE.thenRet ?_
                refine TE.inRet ?_
                refine TE.thenRet ?_
                refine TE.ret1 rfl rfl ?_
                exact fun w h => ⟨by rw [decide_eq_false (fun h : Vld m f => by have := (vld_iff.1 h).2 i (by omega); unfold okN at this; omega)], (h.sub (List.nil_sublist _)).below⟩
              · skip
                (try simp only [decide_eq_true_eq, decide_eq_false_iff_not, beq_iff_eq, beq_eq_false_iff_ne, bne_iff_ne, ne_eq, bne_eq_false_iff_eq, Bool.not_eq_true', Bool.not_eq_false', Int.not_lt, Int.not_le, gt_iff_lt, ge_iff_le] at hs47)
                refine' TL.y rfl rfl rfl ?hy126 ?_
                case hy126 => first | exact Yl.field0 (k := 0) 2 rfl rfl Try.underlying45 rfl (by kernel_rfl) rfl | exact Yl.field (k := 0) 2 rfl rfl Try.underlying45 rfl (by kernel_rfl) rfl
                refine' TL.y rfl rfl rfl ?hy127 ?_
                case hy127 => first | exact Yl.load rfl rfl (by kernel_rfl) (Sl.nws hS (by omega)) | exact Yl.load rfl rfl (by kernel_rfl) (Hp.cell mem0 rfl) | exact Yl.load rfl rfl (by kernel_rfl) (Hp.cell mem1 rfl) | exact Yl.load rfl rfl (by kernel_rfl) (Hp.cell mem2 rfl) | exact Yl.load rfl rfl (by kernel_rfl) (Hp.cell mem3 rfl) | exact Yl.load rfl rfl (by kernel_rfl) (Hp.cell mem4 rfl) | exact Yl.load rfl rfl (by kernel_rfl) (Hp.rowAt mem0 (by omega) rfl) | exact Yl.load rfl rfl (by kernel_rfl) (Hp.rowAt mem1 (by omega) rfl) | exact Yl.load rfl rfl (by kernel_rfl) (Hp.rowAt mem2 (by omega) rfl) | exact Yl.load rfl rfl (by kernel_rfl) (Hp.rowAt mem3 (by omega) rfl) | exact Yl.load rfl rfl (by kernel_rfl) (Hp.rowAt mem4 (by omega) rfl)
                refine' TL.y rfl rfl rfl ?hy128 ?_
                case hy128 => exact Yl.bin rfl rfl rfl (Bin.lss _ _ _ _)
                refine' TL.y rfl rfl rfl ?hy129 ?_
                case hy129 => exact Yl.pickF rfl rfl rfl
                refine' TL.y rfl rfl rfl ?hy130 ?_
                case hy130 => exact Yl.move rfl rfl
                refine TL.split (i := 52) rfl (fun hs52 => ?_) (fun hs52 => ?_)
                · skip
                  (try simp only [decide_eq_true_eq, decide_eq_false_iff_not, beq_iff_eq, beq_eq_false_iff_ne, bne_iff_ne, ne_eq, bne_eq_false_iff_eq, Bool.not_eq_true', Bool.not_eq_false', Int.not_lt, Int.not_le, gt_iff_lt, ge_iff_le] at hs52)
                  refine TL.skip rfl rfl rfl ?_
                  refine TL.skip rfl rfl rfl ?_
                  refine TL.skip rfl rfl rfl ?_
                  refine' TL.y rfl rfl rfl ?hy131 ?_
                  case hy131 => exact Yl.pickT rfl rfl rfl
                  refine TL.nil ?_
                  refine TE.next ?_
                  refine TC.yes rfl rfl ?_
                  refine TC.seq ?_
                  refine TC.region ?_
                  refine' TL.y rfl rfl rfl ?hy132 ?_
                  case hy132 => exact Yl.assign rfl rfl
                  refine TL.nil ?_
                  refine TE.next ?_
                  refine TC.ret ?_
                  refine TE.inRet ?_
                  refine TE.thenRet ?_
                  refine TE.thenRet ?_
                  refine TE.inRet ?_
                  refine TE.thenRet ?_
                  refine TE.ret1 rfl rfl ?_
                  exact fun w h => ⟨by rw [decide_eq_false (fun h : Vld m f => by have := (vld_iff.1 h).2 i (by omega); unfold okN at this; omega)], (h.sub (List.nil_sublist _)).below⟩
                · skip
                  (try simp only [decide_eq_true_eq, decide_eq_false_iff_not, beq_iff_eq, beq_eq_false_iff_ne, bne_iff_ne, ne_eq, bne_eq_false_iff_eq, Bool.not_eq_true', Bool.not_eq_false', Int.not_lt, Int.not_le, gt_iff_lt, ge_iff_le] at hs52)
                  refine' TL.y rfl rfl rfl ?hy133 ?_
                  case hy133 => first | exact Yl.field0 (k := 0) 2 rfl rfl Try.underlying45 rfl (by kernel_rfl) rfl | exact Yl.field (k := 0) 2 rfl rfl Try.underlying45 rfl (by kernel_rfl) rfl
                  refine' TL.y rfl rfl rfl ?hy134 ?_
                  case hy134 => first | exact Yl.load rfl rfl (by kernel_rfl) (Sl.nws hS (by omega)) | exact Yl.load rfl rfl (by kernel_rfl) (Hp.cell mem0 rfl) | exact Yl.load rfl rfl (by kernel_rfl) (Hp.cell mem1 rfl) | exact Yl.load rfl rfl (by kernel_rfl) (Hp.cell mem2 rfl) | exact Yl.load rfl rfl (by kernel_rfl) (Hp.cell mem3 rfl) | exact Yl.load rfl rfl (by kernel_rfl) (Hp.cell mem4 rfl) | exact Yl.load rfl rfl (by kernel_rfl) (Hp.rowAt mem0 (by omega) rfl) | exact Yl.load rfl rfl (by kernel_rfl) (Hp.rowAt mem1 (by omega) rfl) | exact Yl.load rfl rfl (by kernel_rfl) (Hp.rowAt mem2 (by omega) rfl) | exact Yl.load rfl rfl (by kernel_rfl) (Hp.rowAt mem3 (by omega) rfl) | exact Yl.load rfl rfl (by kernel_rfl) (Hp.rowAt mem4 (by omega) rfl)
                  refine' TL.y rfl rfl rfl ?hy135 ?_
                  case hy135 => exact Yl.bin rfl rfl rfl (Bin.gtr _ _ _ _)
                  refine' TL.y rfl rfl rfl ?hy136 ?_
                  case hy136 => exact Yl.pickF rfl rfl rfl
                  refine TL.nil ?_
                  refine TE.next ?_
                  refine TC.cond rfl (fun hs56 => ?_) (fun hs56 => ?_)
                  · skip
                    (try simp only [decide_eq_true_eq, decide_eq_false_iff_not, beq_iff_eq, beq_eq_false_iff_ne, bne_iff_ne, ne_eq, bne_eq_false_iff_eq, Bool.not_eq_true', Bool.not_eq_false', Int.not_lt, Int.not_le, gt_iff_lt, ge_iff_le] at hs56)
                    refine TC.seq ?_
                    refine TC.region ?_
                    refine' TL.y rfl rfl rfl ?hy137 ?_
                    case hy137 => exact Yl.assign rfl rfl
                    refine TL.nil ?_
                    refine TE.next ?_
                    refine TC.ret ?_
                    refine TE.inRet ?_
                    refine TE.thenRet ?_
                    refine TE.thenRet ?_
                    refine TE.inRet ?_
                    refine TE.thenRet ?_
                    refine TE.ret1 rfl rfl ?_
                    exact fun w h => ⟨by rw [decide_eq_false (fun h : Vld m f => by have := (vld_iff.1 h).2 i (by omega); unfold okN at this; omega)], (h.sub (List.nil_sublist _)).below⟩
                  · skip
                    (try simp only [decide_eq_true_eq, decide_eq_false_iff_not, beq_iff_eq, beq_eq_false_iff_ne, bne_iff_ne, ne_eq, bne_eq_false_iff_eq, Bool.not_eq_true', Bool.not_eq_false', Int.not_lt, Int.not_le, gt_iff_lt, ge_iff_le] at hs56)
                    refine TC.skip ?_
                    refine TE.inNormal ?_
                    refine TE.next ?_
                    refine TC.region ?_
                    refine' TL.y rfl rfl rfl ?hy138 ?_
                    case hy138 => exact Yl.move rfl rfl
                    refine' TL.y rfl rfl rfl ?hy139 ?_
                    case hy139 => first | (refine Yl.val (Yl.bin rfl rfl rfl (Bin.add _ _ _ _)) (congrArg (Value.int .i64) (i64in ?_ ?_)) <;> omega) | exact Yl.bin rfl rfl rfl (Bin.add _ _ _ _)
                    refine' TL.y rfl rfl rfl ?hy140 ?_
                    case hy140 => exact Yl.assign rfl rfl
                    refine TL.nil ?_
                    refine TE.round (i + 1) ?hF141 ?hlt141 ?hs141 ?hm141
                    case hF141 => exact ⟨by omega, fun j hj => by
                      by_cases e : j = i
                      · subst e; unfold okN; omega
                      · exact hF j (by omega)⟩
                    case hlt141 => omega
                    case hs141 => exact ⟨rfl, rfl, trivial⟩
                    case hm141 => exact fun w h => h.sub (List.nil_sublist _)
      · skip
        (try simp only [decide_eq_true_eq, decide_eq_false_iff_not, beq_iff_eq, beq_eq_false_iff_ne, bne_iff_ne, ne_eq, bne_eq_false_iff_eq, Bool.not_eq_true', Bool.not_eq_false', Int.not_lt, Int.not_le, gt_iff_lt, ge_iff_le] at hs17)
        refine TL.skip rfl rfl rfl ?_
        refine TL.skip rfl rfl rfl ?_
        refine TL.skip rfl rfl rfl ?_
        refine' TL.y rfl rfl rfl ?hy142 ?_
        case hy142 => exact Yl.pickF rfl rfl rfl
        refine' TL.y rfl rfl rfl ?hy143 ?_
        case hy143 => exact Yl.move rfl rfl
        refine' TL.y rfl rfl rfl ?hy144 ?_
        case hy144 => exact Yl.move rfl rfl
        refine' TL.y rfl rfl rfl ?hy145 ?_
        case hy145 => exact Yl.bin rfl rfl rfl (Bin.gtr _ _ _ _)
        refine' TL.y rfl rfl rfl ?hy146 ?_
        case hy146 => exact Yl.move rfl rfl
        refine TL.split (i := 25) rfl (fun hs25 => ?_) (fun hs25 => ?_)
        · skip
          (try simp only [decide_eq_true_eq, decide_eq_false_iff_not, beq_iff_eq, beq_eq_false_iff_ne, bne_iff_ne, ne_eq, bne_eq_false_iff_eq, Bool.not_eq_true', Bool.not_eq_false', Int.not_lt, Int.not_le, gt_iff_lt, ge_iff_le] at hs25)
          refine' TL.y rfl rfl rfl ?hy147 ?_
          case hy147 => first | exact Yl.field0 (k := 0) 0 rfl rfl Try.underlying45 rfl (by kernel_rfl) rfl | exact Yl.field (k := 0) 0 rfl rfl Try.underlying45 rfl (by kernel_rfl) rfl
          refine' TL.y rfl rfl rfl ?hy148 ?_
          case hy148 => first | exact Yl.load rfl rfl (by kernel_rfl) (Sl.nws hS (by omega)) | exact Yl.load rfl rfl (by kernel_rfl) (Hp.cell mem0 rfl) | exact Yl.load rfl rfl (by kernel_rfl) (Hp.cell mem1 rfl) | exact Yl.load rfl rfl (by kernel_rfl) (Hp.cell mem2 rfl) | exact Yl.load rfl rfl (by kernel_rfl) (Hp.cell mem3 rfl) | exact Yl.load rfl rfl (by kernel_rfl) (Hp.cell mem4 rfl) | exact Yl.load rfl rfl (by kernel_rfl) (Hp.rowAt mem0 (by omega) rfl) | exact Yl.load rfl rfl (by kernel_rfl) (Hp.rowAt mem1 (by omega) rfl) | exact Yl.load rfl rfl (by kernel_rfl) (Hp.rowAt mem2 (by omega) rfl) | exact Yl.load rfl rfl (by kernel_rfl) (Hp.rowAt mem3 (by omega) rfl) | exact Yl.load rfl rfl (by kernel_rfl) (Hp.rowAt mem4 (by omega) rfl)
          refine' TL.y rfl rfl rfl ?hy149 ?_
          case hy149 => exact Yl.bin rfl rfl rfl (Bin.lss _ _ _ _)
          refine' TL.y rfl rfl rfl ?hy150 ?_
          case hy150 => exact Yl.move rfl rfl
          refine TL.split (i := 29) rfl (fun hs29 => ?_) (fun hs29 => ?_)
          · skip
            (try simp only [decide_eq_true_eq, decide_eq_false_iff_not, beq_iff_eq, beq_eq_false_iff_ne, bne_iff_ne, ne_eq, bne_eq_false_iff_eq, Bool.not_eq_true', Bool.not_eq_false', Int.not_lt, Int.not_le, gt_iff_lt, ge_iff_le] at hs29)
            refine TL.skip rfl rfl rfl ?_
            refine TL.skip rfl rfl rfl ?_
            refine TL.skip rfl rfl rfl ?_
            refine TL.skip rfl rfl rfl ?_
            refine' TL.y rfl rfl rfl ?hy151 ?_
            case hy151 => exact Yl.pickT rfl rfl rfl
            refine' TL.y rfl rfl rfl ?hy152 ?_
            case hy152 => exact Yl.pickT rfl rfl rfl
            refine' TL.y rfl rfl rfl ?hy153 ?_
            case hy153 => exact Yl.pickF rfl rfl rfl
            refine' TL.y rfl rfl rfl ?hy154 ?_
            case hy154 => exact Yl.move rfl rfl
            refine TL.skip rfl rfl rfl ?_
            refine TL.skip rfl rfl rfl ?_
            refine TL.skip rfl rfl rfl ?_
            refine' TL.y rfl rfl rfl ?hy155 ?_
            case hy155 => exact Yl.pickT rfl rfl rfl
            refine' TL.y rfl rfl rfl ?hy156 ?_
            case hy156 => exact Yl.move rfl rfl
            refine TL.skip rfl rfl rfl ?_
            refine TL.skip rfl rfl rfl ?_
            refine TL.skip rfl rfl rfl ?_
            refine' TL.y rfl rfl rfl ?hy157 ?_
            case hy157 => exact Yl.pickT rfl rfl rfl
            refine' TL.y rfl rfl rfl ?hy158 ?_
            case hy158 => exact Yl.move rfl rfl
            refine TL.skip rfl rfl rfl ?_
            refine TL.skip rfl rfl rfl ?_
            refine TL.skip rfl rfl rfl ?_
            refine' TL.y rfl rfl rfl ?hy159 ?_
            case hy159 => exact Yl.pickT rfl rfl rfl
            refine' TL.y rfl rfl rfl ?hy160 ?_
            case hy160 => exact Yl.move rfl rfl
            refine TL.skip rfl rfl rfl ?_
            refine TL.skip rfl rfl rfl ?_
            refine TL.skip rfl rfl rfl ?_
            refine' TL.y rfl rfl rfl ?hy161 ?_
            case hy161 => exact Yl.pickT rfl rfl rfl
            refine TL.nil ?_
            refine TE.next ?_
            refine TC.yes rfl rfl ?_
            refine TC.seq ?_
            refine TC.region ?_
            refine' TL.y rfl rfl rfl ?hy162 ?_
            case hy162 => exact Yl.assign rfl rfl
            refine TL.nil ?_
            refine TE.next ?_
            refine TC.ret ?_
            refine TE.inRet ?_
            refine TE.thenRet ?_
            refine TE.thenRet ?_
            refine TE.inRet ?_
            refine TE.thenRet ?_
            refine TE.ret1 rfl rfl ?_
            exact fun w h => ⟨by rw [decide_eq_false (fun h : Vld m f => by have := (vld_iff.1 h).2 i (by omega); unfold okN at this; omega)], (h.sub (List.nil_sublist _)).below⟩
          · skip
            (try simp only [decide_eq_true_eq, decide_eq_false_iff_not, beq_iff_eq, beq_eq_false_iff_ne, bne_iff_ne, ne_eq, bne_eq_false_iff_eq, Bool.not_eq_true', Bool.not_eq_false', Int.not_lt, Int.not_le, gt_iff_lt, ge_iff_le] at hs29)
            refine' TL.y rfl rfl rfl ?hy163 ?_
            case hy163 => first | exact Yl.field0 (k := 0) 0 rfl rfl Try.underlying45 rfl (by kernel_rfl) rfl | exact Yl.field (k := 0) 0 rfl rfl Try.underlying45 rfl (by kernel_rfl) rfl
            refine' TL.y rfl rfl rfl ?hy164 ?_
            case hy164 => first | exact Yl.load rfl rfl (by kernel_rfl) (Sl.nws hS (by omega)) | exact Yl.load rfl rfl (by kernel_rfl) (Hp.cell mem0 rfl) | exact Yl.load rfl rfl (by kernel_rfl) (Hp.cell mem1 rfl) | exact Yl.load rfl rfl (by kernel_rfl) (Hp.cell mem2 rfl) | exact Yl.load rfl rfl (by kernel_rfl) (Hp.cell mem3 rfl) | exact Yl.load rfl rfl (by kernel_rfl) (Hp.cell mem4 rfl) | exact Yl.load rfl rfl (by kernel_rfl) (Hp.rowAt mem0 (by omega) rfl) | exact Yl.load rfl rfl (by kernel_rfl) (Hp.rowAt mem1 (by omega) rfl) | exact Yl.load rfl rfl (by kernel_rfl) (Hp.rowAt mem2 (by omega) rfl) | exact Yl.load rfl rfl (by kernel_rfl) (Hp.rowAt mem3 (by omega) rfl) | exact Yl.load rfl rfl (by kernel_rfl) (Hp.rowAt mem4 (by omega) rfl)
            refine' TL.y rfl rfl rfl ?hy165 ?_
            case hy165 => exact Yl.move rfl rfl
            refine' TL.y rfl rfl rfl ?hy166 ?_
            case hy166 => exact Yl.bin rfl rfl rfl (Bin.geq _ _ _ _)
            refine' TL.y rfl rfl rfl ?hy167 ?_
            case hy167 => exact Yl.pickF rfl rfl rfl
            refine' TL.y rfl rfl rfl ?hy168 ?_
            case hy168 => exact Yl.pickT rfl rfl rfl
            refine' TL.y rfl rfl rfl ?hy169 ?_
            case hy169 => exact Yl.pickF rfl rfl rfl
            refine' TL.y rfl rfl rfl ?hy170 ?_
            case hy170 => exact Yl.move rfl rfl
            refine TL.split (i := 37) rfl (fun hs37 => ?_) (fun hs37 => ?_)
            · skip
              (try simp only [decide_eq_true_eq, decide_eq_false_iff_not, beq_iff_eq, beq_eq_false_iff_ne, bne_iff_ne, ne_eq, bne_eq_false_iff_eq, Bool.not_eq_true', Bool.not_eq_false', Int.not_lt, Int.not_le, gt_iff_lt, ge_iff_le] at hs37)
              refine TL.skip rfl rfl rfl ?_
              refine TL.skip rfl rfl rfl ?_
              refine TL.skip rfl rfl rfl ?_
              refine' TL.y rfl rfl rfl ?hy171 ?_
              case hy171 => exact Yl.pickT rfl rfl rfl
              refine' TL.y rfl rfl rfl ?hy172 ?_
              case hy172 => exact Yl.move rfl rfl
              refine TL.skip rfl rfl rfl ?_
              refine TL.skip rfl rfl rfl ?_
              refine TL.skip rfl rfl rfl ?_
              refine' TL.y rfl rfl rfl ?hy173 ?_
              case hy173 => exact Yl.pickT rfl rfl rfl
              refine' TL.y rfl rfl rfl ?hy174 ?_
              case hy174 => exact Yl.move rfl rfl
              refine TL.skip rfl rfl rfl ?_
              refine TL.skip rfl rfl rfl ?_
              refine TL.skip rfl rfl rfl ?_
              refine' TL.y rfl rfl rfl ?hy175 ?_
              case hy175 => exact Yl.pickT rfl rfl rfl
              refine' TL.y rfl rfl rfl ?hy176 ?_
              case hy176 => exact Yl.move rfl rfl
              refine TL.skip rfl rfl rfl ?_
              refine TL.skip rfl rfl rfl ?_
              refine TL.skip rfl rfl rfl ?_
              refine' TL.y rfl rfl rfl ?hy177 ?_
              case hy177 => exact Yl.pickT rfl rfl rfl
              refine TL.nil ?_
              refine TE.next ?_
              refine TC.yes rfl rfl ?_
              refine TC.seq ?_
              refine TC.region ?_
              refine' TL.y rfl rfl rfl ?hy178 ?_
              case hy178 => exact Yl.assign rfl rfl
              refine TL.nil ?_
              refine TE.next ?_
              refine TC.ret ?_
              refine TE.inRet ?_
              refine TE.thenRet ?_
              refine TE.thenRet ?_
              refine TE.inRet ?_
              refine TE.thenRet ?_
              refine TE.ret1 rfl rfl ?_
              exact fun w h => ⟨by rw [decide_eq_false (fun h : Vld m f => by have := (vld_iff.1 h).2 i (by omega); unfold okN at this; omega)], (h.sub (List.nil_sublist _)).below⟩
            · skip
              (try simp only [decide_eq_true_eq, decide_eq_false_iff_not, beq_iff_eq, beq_eq_false_iff_ne, bne_iff_ne, ne_eq, bne_eq_false_iff_eq, Bool.not_eq_true', Bool.not_eq_false', Int.not_lt, Int.not_le, gt_iff_lt, ge_iff_le] at hs37)
              refine' TL.y rfl rfl rfl ?hy179 ?_
              case hy179 => first | exact Yl.field0 (k := 0) 1 rfl rfl Try.underlying45 rfl (by kernel_rfl) rfl | exact Yl.field (k := 0) 1 rfl rfl Try.underlying45 rfl (by kernel_rfl) rfl
              refine' TL.y rfl rfl rfl ?hy180 ?_
              case hy180 => first | exact Yl.load rfl rfl (by kernel_rfl) (Sl.nws hS (by omega)) | exact Yl.load rfl rfl (by kernel_rfl) (Hp.cell mem0 rfl) | exact Yl.load rfl rfl (by kernel_rfl) (Hp.cell mem1 rfl) | exact Yl.load rfl rfl (by kernel_rfl) (Hp.cell mem2 rfl) | exact Yl.load rfl rfl (by kernel_rfl) (Hp.cell mem3 rfl) | exact Yl.load rfl rfl (by kernel_rfl) (Hp.cell mem4 rfl) | exact Yl.load rfl rfl (by kernel_rfl) (Hp.rowAt mem0 (by omega) rfl) | exact Yl.load rfl rfl (by kernel_rfl) (Hp.rowAt mem1 (by omega) rfl) | exact Yl.load rfl rfl (by kernel_rfl) (Hp.rowAt mem2 (by omega) rfl) | exact Yl.load rfl rfl (by kernel_rfl) (Hp.rowAt mem3 (by omega) rfl) | exact Yl.load rfl rfl (by kernel_rfl) (Hp.rowAt mem4 (by omega) rfl)
              refine' TL.y rfl rfl rfl ?hy181 ?_
              case hy181 => exact Yl.bin rfl rfl rfl (Bin.lss _ _ _ _)
              refine' TL.y rfl rfl rfl ?hy182 ?_
              case hy182 => exact Yl.pickF rfl rfl rfl
              refine' TL.y rfl rfl rfl ?hy183 ?_
              case hy183 => exact Yl.move rfl rfl
              refine TL.split (i := 42) rfl (fun hs42 => ?_) (fun hs42 => ?_)
              · skip
                (try simp only [decide_eq_true_eq, decide_eq_false_iff_not, beq_iff_eq, beq_eq_false_iff_ne, bne_iff_ne, ne_eq, bne_eq_false_iff_eq, Bool.not_eq_true', Bool.not_eq_false', Int.not_lt, Int.not_le, gt_iff_lt, ge_iff_le] at hs42)
                refine TL.skip rfl rfl rfl ?_
                refine TL.skip rfl rfl rfl ?_
                refine TL.skip rfl rfl rfl ?_
                refine' TL.y rfl rfl rfl ?hy184 ?_
                case hy184 => exact Yl.pickT rfl rfl rfl
                refine' TL.y rfl rfl rfl ?hy185 ?_
                case hy185 => exact Yl.move rfl rfl
                refine TL.skip rfl rfl rfl ?_
                refine TL.skip rfl rfl rfl ?_
                refine TL.skip rfl rfl rfl ?_
                refine' TL.y rfl rfl rfl ?hy186 ?_
                case hy186 => exact Yl.pickT rfl rfl rfl
                refine' TL.y rfl rfl rfl ?hy187 ?_
                case hy187 => exact Yl.move rfl rfl
                refine TL.skip rfl rfl rfl ?_
                refine TL.skip rfl rfl rfl ?_
                refine TL.skip rfl rfl rfl ?_
                refine' TL.y rfl rfl rfl ?hy188 ?_
                case hy188 => exact Yl.pickT rfl rfl rfl
                refine TL.nil ?_
                refine TE.next ?_
                refine TC.yes rfl rfl ?_
                refine TC.seq ?_
                refine TC.region ?_
                refine' TL.y rfl rfl rfl ?hy189 ?_
                case hy189 => exact Yl.assign rfl rfl
                refine TL.nil ?_
                refine TE.next ?_
                refine TC.ret ?_
                refine TE.inRet ?_
                refine TE.thenRet ?_
                refine TE.thenRet ?_
                refine TE.inRet ?_
                refine TE.thenRet ?_
                refine TE.ret1 rfl rfl ?_
                exact fun w h => ⟨by rw [decide_eq_false (fun h : Vld m f => by have := (vld_iff.1 h).2 i (by omega); unfold okN at this; omega)], (h.sub (List.nil_sublist _)).below⟩
              · skip
                (try simp only [decide_eq_true_eq, decide_eq_false_iff_not, beq_iff_eq, beq_eq_false_iff_ne, bne_iff_ne, ne_eq, bne_eq_false_iff_eq, Bool.not_eq_true', Bool.not_eq_false', Int.not_lt, Int.not_le, gt_iff_lt, ge_iff_le] at hs42)
                refine' TL.y rfl rfl rfl ?hy190 ?_
                case hy190 => first | exact Yl.field0 (k := 0) 1 rfl rfl Try.underlying45 rfl (by kernel_rfl) rfl | exact Yl.field (k := 0) 1 rfl rfl Try.underlying45 rfl (by kernel_rfl) rfl
                refine' TL.y rfl rfl rfl ?hy191 ?_
                case hy191 => first | exact Yl.load rfl rfl (by kernel_rfl) (Sl.nws hS (by omega)) | exact Yl.load rfl rfl (by kernel_rfl) (Hp.cell mem0 rfl) | exact Yl.load rfl rfl (by kernel_rfl) (Hp.cell mem1 rfl) | exact Yl.load rfl rfl (by kernel_rfl) (Hp.cell mem2 rfl) | exact Yl.load rfl rfl (by kernel_rfl) (Hp.cell mem3 rfl) | exact Yl.load rfl rfl (by kernel_rfl) (Hp.cell mem4 rfl) | exact Yl.load rfl rfl (by kernel_rfl) (Hp.rowAt mem0 (by omega) rfl) | exact Yl.load rfl rfl (by kernel_rfl) (Hp.rowAt mem1 (by omega) rfl) | exact Yl.load rfl rfl (by kernel_rfl) (Hp.rowAt mem2 (by omega) rfl) | exact Yl.load rfl rfl (by kernel_rfl) (Hp.rowAt mem3 (by omega) rfl) | exact Yl.load rfl rfl (by kernel_rfl) (Hp.rowAt mem4 (by omega) rfl)
                refine' TL.y rfl rfl rfl ?hy192 ?_
                case hy192 => exact Yl.bin rfl rfl rfl (Bin.gtr _ _ _ _)
                refine' TL.y rfl rfl rfl ?hy193 ?_
                case hy193 => exact Yl.pickF rfl rfl rfl
                refine' TL.y rfl rfl rfl ?hy194 ?_
                case hy194 => exact Yl.move rfl rfl
                refine TL.split (i := 47) rfl (fun hs47 => ?_) (fun hs47 => ?_)
                · skip
                  (try simp only [decide_eq_true_eq, decide_eq_false_iff_not, beq_iff_eq, beq_eq_false_iff_ne, bne_iff_ne, ne_eq, bne_eq_false_iff_eq, Bool.not_eq_true', Bool.not_eq_false', Int.not_lt, Int.not_le, gt_iff_lt, ge_iff_le] at hs47)
                  refine TL.skip rfl rfl rfl ?_
                  refine TL.skip rfl rfl rfl ?_
                  refine TL.skip rfl rfl rfl ?_
                  refine' TL.y rfl rfl rfl ?hy195 ?_
                  case hy195 => exact Yl.pickT rfl rfl rfl
                  refine' TL.y rfl rfl rfl ?hy196 ?_
                  case hy196 => exact Yl.move rfl rfl
                  refine TL.skip rfl rfl rfl ?_
                  refine TL.skip rfl rfl rfl ?_
                  refine TL.skip rfl rfl rfl ?_
                  refine' TL.y rfl rfl rfl ?hy197 ?_
                  case hy197 => exact Yl.pickT rfl rfl rfl
                  refine TL.nil ?_
                  refine TE.next ?_
                  refine TC.yes rfl rfl ?_
                  refine TC.seq ?_
                  refine TC.region ?_
                  refine' TL.y rfl rfl rfl ?hy198 ?_
                  case hy198 => exact Yl.assign rfl rfl
                  refine TL.nil ?_
                  refine TE.next ?_
                  refine TC.ret ?_
                  refine TE.inRet ?_
                  refine TE.thenRet ?_
                  refine TE.thenRet ?_
                  refine TE.inRet ?_
                  refine TE.thenRet ?_
                  refine TE.ret1 rfl rfl ?_
                  exact fun w h => ⟨by rw [decide_eq_false (fun h : Vld m f => by have := (vld_iff.1 h).2 i (by omega); unfold okN at this; omega)], (h.sub (List.nil_sublist _)).below⟩
                · skip
                  (try simp only [decide_eq_true_eq, decide_eq_false_iff_not, beq_iff_eq, beq_eq_false_iff_ne, bne_iff_ne, ne_eq, bne_eq_false_iff_eq, Bool.not_eq_true', Bool.not_eq_false', Int.not_lt, Int.not_le, gt_iff_lt, ge_iff_le] at hs47)
                  refine' TL.y rfl rfl rfl ?hy199 ?_
                  case hy199 => first | exact Yl.field0 (k := 0) 2 rfl rfl Try.underlying45 rfl (by kernel_rfl) rfl | exact Yl.field (k := 0) 2 rfl rfl Try.underlying45 rfl (by kernel_rfl) rfl
                  refine' TL.y rfl rfl rfl ?hy200 ?_
                  case hy200 => first | exact Yl.load rfl rfl (by kernel_rfl) (Sl.nws hS (by omega)) | exact Yl.load rfl rfl (by kernel_rfl) (Hp.cell mem0 rfl) | exact Yl.load rfl rfl (by kernel_rfl) (Hp.cell mem1 rfl) | exact Yl.load rfl rfl (by kernel_rfl) (Hp.cell mem2 rfl) | exact Yl.load rfl rfl (by kernel_rfl) (Hp.cell mem3 rfl) | exact Yl.load rfl rfl (by kernel_rfl) (Hp.cell mem4 rfl) | exact Yl.load rfl rfl (by kernel_rfl) (Hp.rowAt mem0 (by omega) rfl) | exact Yl.load rfl rfl (by kernel_rfl) (Hp.rowAt mem1 (by omega) rfl) | exact Yl.load rfl rfl (by kernel_rfl) (Hp.rowAt mem2 (by omega) rfl) | exact Yl.load rfl rfl (by kernel_rfl) (Hp.rowAt mem3 (by omega) rfl) | exact Yl.load rfl rfl (by kernel_rfl) (Hp.rowAt mem4 (by omega) rfl)
                  refine' TL.y rfl rfl rfl ?hy201 ?_
                  case hy201 => exact Yl.bin rfl rfl rfl (Bin.lss _ _ _ _)
                  refine' TL.y rfl rfl rfl ?hy202 ?_
                  case hy202 => exact Yl.pickF rfl rfl rfl
                  refine' TL.y rfl rfl rfl ?hy203 ?_
                  case hy203 => exact Yl.move rfl rfl
                  refine TL.split (i := 52) rfl (fun hs52 => ?_) (fun hs52 => ?_)
                  · skip
                    (try simp only [decide_eq_true_eq, decide_eq_false_iff_not, beq_iff_eq, beq_eq_false_iff_ne, bne_iff_ne, ne_eq, bne_eq_false_iff_eq, Bool.not_eq_true', Bool.not_eq_false', Int.not_lt, Int.not_le, gt_iff_lt, ge_iff_le] at hs52)
                    refine TL.skip rfl rfl rfl ?_
                    refine TL.skip rfl rfl rfl ?_
                    refine TL.skip rfl rfl rfl ?_
                    refine' TL.y rfl rfl rfl ?hy204 ?_
                    case hy204 => exact Yl.pickT rfl rfl rfl
                    refine TL.nil ?_
                    refine TE.next ?_
                    refine TC.yes rfl rfl ?_
                    refine TC.seq ?_
                    refine TC.region ?_
                    refine' TL.y rfl rfl rfl ?hy205 ?_
                    case hy205 => exact Yl.assign rfl rfl
                    refine TL.nil ?_
                    refine TE.next ?_
                    refine TC.ret ?_
                    refine TE.inRet ?_
                    refine TE.thenRet ?_
                    refine TE.thenRet ?_
                    refine TE.inRet ?_
                    refine TE.thenRet ?_
                    refine TE.ret1 rfl rfl ?_
                    exact fun w h => ⟨by rw [decide_eq_false (fun h : Vld m f => by have := (vld_iff.1 h).2 i (by omega); unfold okN at this; omega)], (h.sub (List.nil_sublist _)).below⟩
                  · skip
                    (try simp only [decide_eq_true_eq, decide_eq_false_iff_not, beq_iff_eq, beq_eq_false_iff_ne, bne_iff_ne, ne_eq, bne_eq_false_iff_eq, Bool.not_eq_true', Bool.not_eq_false', Int.not_lt, Int.not_le, gt_iff_lt, ge_iff_le] at hs52)
                    refine' TL.y rfl rfl rfl ?hy206 ?_
                    case hy206 => first | exact Yl.field0 (k := 0) 2 rfl rfl Try.underlying45 rfl (by kernel_rfl) rfl | exact Yl.field (k := 0) 2 rfl rfl Try.underlying45 rfl (by kernel_rfl) rfl
                    refine' TL.y rfl rfl rfl ?hy207 ?_
                    case hy207 => first | exact Yl.load rfl rfl (by kernel_rfl) (Sl.nws hS (by omega)) | exact Yl.load rfl rfl (by kernel_rfl) (Hp.cell mem0 rfl) | exact Yl.load rfl rfl (by kernel_rfl) (Hp.cell mem1 rfl) | exact Yl.load rfl rfl (by kernel_rfl) (Hp.cell mem2 rfl) | exact Yl.load rfl rfl (by kernel_rfl) (Hp.cell mem3 rfl) | exact Yl.load rfl rfl (by kernel_rfl) (Hp.cell mem4 rfl) | exact Yl.load rfl rfl (by kernel_rfl) (Hp.rowAt mem0 (by omega) rfl) | exact Yl.load rfl rfl (by kernel_rfl) (Hp.rowAt mem1 (by omega) rfl) | exact Yl.load rfl rfl (by kernel_rfl) (Hp.rowAt mem2 (by omega) rfl) | exact Yl.load rfl rfl (by kernel_rfl) (Hp.rowAt mem3 (by omega) rfl) | exact Yl.load rfl rfl (by kernel_rfl) (Hp.rowAt mem4 (by omega) rfl)
                    refine' TL.y rfl rfl rfl ?hy208 ?_
                    case hy208 => exact Yl.bin rfl rfl rfl (Bin.gtr _ _ _ _)
                    refine' TL.y rfl rfl rfl ?hy209 ?_
                    case hy209 => exact Yl.pickF rfl rfl rfl
                    refine TL.nil ?_
                    refine TE.next ?_
                    refine TC.cond rfl (fun hs56 => ?_) (fun hs56 => ?_)
                    · skip
                      (try simp only [decide_eq_true_eq, decide_eq_false_iff_not, beq_iff_eq, beq_eq_false_iff_ne, bne_iff_ne, ne_eq, bne_eq_false_iff_eq, Bool.not_eq_true', Bool.not_eq_false', Int.not_lt, Int.not_le, gt_iff_lt, ge_iff_le] at hs56)
                      refine TC.seq ?_
                      refine TC.region ?_
                      refine' TL.y rfl rfl rfl ?hy210 ?_
                      case hy210 => exact Yl.assign rfl rfl
                      refine TL.nil ?_
                      refine TE.next ?_
                      refine TC.ret ?_
                      refine TE.inRet ?_
                      refine TE.thenRet ?_
                      refine TE.thenRet ?_
                      refine TE.inRet ?_
                      refine TE.thenRet ?_
                      refine TE.ret1 rfl rfl ?_
                      exact fun w h => ⟨by rw [decide_eq_false (fun h : Vld m f => by have := (vld_iff.1 h).2 i (by omega); unfold okN at this; omega)], (h.sub (List.nil_sublist _)).below⟩
                    · skip
                      (try simp only [decide_eq_true_eq, decide_eq_false_iff_not, beq_iff_eq, beq_eq_false_iff_ne, bne_iff_ne, ne_eq, bne_eq_false_iff_eq, Bool.not_eq_true', Bool.not_eq_false', Int.not_lt, Int.not_le, gt_iff_lt, ge_iff_le] at hs56)
                      refine TC.skip ?_
                      refine TE.inNormal ?_
                      refine TE.next ?_
                      refine TC.region ?_
                      refine' TL.y rfl rfl rfl ?hy211 ?_
                      case hy211 => exact Yl.move rfl rfl
                      refine' TL.y rfl rfl rfl ?hy212 ?_
                      case hy212 => first | (refine Yl.val (Yl.bin rfl rfl rfl (Bin.add _ _ _ _)) (congrArg (Value.int .i64) (i64in ?_ ?_)) <;> omega) | exact Yl.bin rfl rfl rfl (Bin.add _ _ _ _)
                      refine' TL.y rfl rfl rfl ?hy213 ?_
                      case hy213 => exact Yl.assign rfl rfl
                      refine TL.nil ?_
                      refine TE.round (i + 1) ?hF214 ?hlt214 ?hs214 ?hm214
                      case hF214 => exact ⟨by omega, fun j hj => by
                        by_cases e : j = i
                        · subst e; unfold okN; omega
                        · exact hF j (by omega)⟩
                      case hlt214 => omega
                      case hs214 => exact ⟨rfl, rfl, trivial⟩
                      case hm214 => exact fun w h => h.sub (List.nil_sublist _)
        · skip
          (try simp only [decide_eq_true_eq, decide_eq_false_iff_not, beq_iff_eq, beq_eq_false_iff_ne, bne_iff_ne, ne_eq, bne_eq_false_iff_eq, Bool.not_eq_true', Bool.not_eq_false', Int.not_lt, Int.not_le, gt_iff_lt, ge_iff_le] at hs25)
          refine TL.skip rfl rfl rfl ?_
          refine TL.skip rfl rfl rfl ?_
          refine TL.skip rfl rfl rfl ?_
          refine TL.skip rfl rfl rfl ?_
          refine TL.skip rfl rfl rfl ?_
          refine TL.skip rfl rfl rfl ?_
          refine TL.skip rfl rfl rfl ?_
          refine TL.skip rfl rfl rfl ?_
          refine TL.skip rfl rfl rfl ?_
          refine' TL.y rfl rfl rfl ?hy215 ?_
          case hy215 => exact Yl.pickF rfl rfl rfl
          refine' TL.y rfl rfl rfl ?hy216 ?_
          case hy216 => exact Yl.pickF rfl rfl rfl
          refine' TL.y rfl rfl rfl ?hy217 ?_
          case hy217 => exact Yl.move rfl rfl
          refine' TL.y rfl rfl rfl ?hy218 ?_
          case hy218 => first | exact Yl.field0 (k := 0) 1 rfl rfl Try.underlying45 rfl (by kernel_rfl) rfl | exact Yl.field (k := 0) 1 rfl rfl Try.underlying45 rfl (by kernel_rfl) rfl
          refine' TL.y rfl rfl rfl ?hy219 ?_
          case hy219 => first | exact Yl.load rfl rfl (by kernel_rfl) (Sl.nws hS (by omega)) | exact Yl.load rfl rfl (by kernel_rfl) (Hp.cell mem0 rfl) | exact Yl.load rfl rfl (by kernel_rfl) (Hp.cell mem1 rfl) | exact Yl.load rfl rfl (by kernel_rfl) (Hp.cell mem2 rfl) | exact Yl.load rfl rfl (by kernel_rfl) (Hp.cell mem3 rfl) | exact Yl.load rfl rfl (by kernel_rfl) (Hp.cell mem4 rfl) | exact Yl.load rfl rfl (by kernel_rfl) (Hp.rowAt mem0 (by omega) rfl) | exact Yl.load rfl rfl (by kernel_rfl) (Hp.rowAt mem1 (by omega) rfl) | exact Yl.load rfl rfl (by kernel_rfl) (Hp.rowAt mem2 (by omega) rfl) | exact Yl.load rfl rfl (by kernel_rfl) (Hp.rowAt mem3 (by omega) rfl) | exact Yl.load rfl rfl (by kernel_rfl) (Hp.rowAt mem4 (by omega) rfl)
          refine' TL.y rfl rfl rfl ?hy220 ?_
          case hy220 => exact Yl.bin rfl rfl rfl (Bin.lss _ _ _ _)
          refine' TL.y rfl rfl rfl ?hy221 ?_
          case hy221 => exact Yl.pickF rfl rfl rfl
          refine' TL.y rfl rfl rfl ?hy222 ?_
          case hy222 => exact Yl.move rfl rfl
          refine TL.split (i := 42) rfl (fun hs42 => ?_) (fun hs42 => ?_)
          · skip
            (try simp only [decide_eq_true_eq, decide_eq_false_iff_not, beq_iff_eq, beq_eq_false_iff_ne, bne_iff_ne, ne_eq, bne_eq_false_iff_eq, Bool.not_eq_true', Bool.not_eq_false', Int.not_lt, Int.not_le, gt_iff_lt, ge_iff_le] at hs42)
            refine TL.skip rfl rfl rfl ?_
            refine TL.skip rfl rfl rfl ?_
            refine TL.skip rfl rfl rfl ?_
            refine' TL.y rfl rfl rfl ?hy223 ?_
            case hy223 => exact Yl.pickT rfl rfl rfl
            refine' TL.y rfl rfl rfl ?hy224 ?_
            case hy224 => exact Yl.move rfl rfl
            refine TL.skip rfl rfl rfl ?_
            refine TL.skip rfl rfl rfl ?_
            refine TL.skip rfl rfl rfl ?_
            refine' TL.y rfl rfl rfl ?hy225 ?_
            case hy225 => exact Yl.pickT rfl rfl rfl
            refine' TL.y rfl rfl rfl ?hy226 ?_
            case hy226 => exact Yl.move rfl rfl
            refine TL.skip rfl rfl rfl ?_
            refine TL.skip rfl rfl rfl ?_
            refine TL.skip rfl rfl rfl ?_
            refine' TL.y rfl rfl rfl ?hy227 ?_
            case hy227 => exact Yl.pickT rfl rfl rfl
            refine TL.nil ?_
            refine TE.next ?_
            refine TC.yes rfl rfl ?_
            refine TC.seq ?_
            refine TC.region ?_
            refine' TL.y rfl rfl rfl ?hy228 ?_
            case hy228 => exact Yl.assign rfl rfl
            refine TL.nil ?_
            refine TE.next ?_
            refine TC.ret ?_
            refine TE.inRet ?_
            refine TE.thenRet ?_
            refine TE.thenRet ?_
            refine TE.inRet ?_
            refine TE.thenRet ?_
            refine TE.ret1 rfl rfl ?_
            exact fun w h => ⟨by rw [decide_eq_false (fun h : Vld m f => by have := (vld_iff.1 h).2 i (by omega); unfold okN at this; omega)], (h.sub (List.nil_sublist _)).below⟩
          · skip
            (try simp only [decide_eq_true_eq, decide_eq_false_iff_not, beq_iff_eq, beq_eq_false_iff_ne, bne_iff_ne, ne_eq, bne_eq_false_iff_eq, Bool.not_eq_true', Bool.not_eq_false', Int.not_lt, Int.not_le, gt_iff_lt, ge_iff_le] at hs42)
            refine' TL.y rfl rfl rfl ?hy229 ?_
            case hy229 => first | exact Yl.field0 (k := 0) 1 rfl rfl Try.underlying45 rfl (by kernel_rfl) rfl | exact Yl.field (k := 0) 1 rfl rfl Try.underlying45 rfl (by kernel_rfl) rfl
            refine' TL.y rfl rfl rfl ?hy230 ?_
            case hy230 => first | exact Yl.load rfl rfl (by kernel_rfl) (Sl.nws hS (by omega)) | exact Yl.load rfl rfl (by kernel_rfl) (Hp.cell mem0 rfl) | exact Yl.load rfl rfl (by kernel_rfl) (Hp.cell mem1 rfl) | exact Yl.load rfl rfl (by kernel_rfl) (Hp.cell mem2 rfl) | exact Yl.load rfl rfl (by kernel_rfl) (Hp.cell mem3 rfl) | exact Yl.load rfl rfl (by kernel_rfl) (Hp.cell mem4 rfl) | exact Yl.load rfl rfl (by kernel_rfl) (Hp.rowAt mem0 (by omega) rfl) | exact Yl.load rfl rfl (by kernel_rfl) (Hp.rowAt mem1 (by omega) rfl) | exact Yl.load rfl rfl (by kernel_rfl) (Hp.rowAt mem2 (by omega) rfl) | exact Yl.load rfl rfl (by kernel_rfl) (Hp.rowAt mem3 (by omega) rfl) | exact Yl.load rfl rfl (by kernel_rfl) (Hp.rowAt mem4 (by omega) rfl)
            refine' TL.y rfl rfl rfl ?hy231 ?_
            case hy231 => exact Yl.bin rfl rfl rfl (Bin.gtr _ _ _ _)
            refine' TL.y rfl rfl rfl ?hy232 ?_
            case hy232 => exact Yl.pickF rfl rfl rfl
            refine' TL.y rfl rfl rfl ?hy233 ?_
            case hy233 => exact Yl.move rfl rfl
            refine TL.split (i := 47) rfl (fun hs47 => ?_) (fun hs47 => ?_)
            · skip
              (try simp only [decide_eq_true_eq, decide_eq_false_iff_not, beq_iff_eq, beq_eq_false_iff_ne, bne_iff_ne, ne_eq, bne_eq_false_iff_eq, Bool.not_eq_true', Bool.not_eq_false', Int.not_lt, Int.not_le, gt_iff_lt, ge_iff_le] at hs47)
              refine TL.skip rfl rfl rfl ?_
              refine TL.skip rfl rfl rfl ?_
              refine TL.skip rfl rfl rfl ?_
              refine' TL.y rfl rfl rfl ?hy234 ?_
              case hy234 => exact Yl.pickT rfl rfl rfl
              refine' TL.y rfl rfl rfl ?hy235 ?_
              case hy235 => exact Yl.move rfl rfl
              refine TL.skip rfl rfl rfl ?_
              refine TL.skip rfl rfl rfl ?_
              refine TL.skip rfl rfl rfl ?_
              refine' TL.y rfl rfl rfl ?hy236 ?_
              case hy236 => exact Yl.pickT rfl rfl rfl
              refine TL.nil ?_
              refine TE.next ?_
              refine TC.yes rfl rfl ?_
              refine TC.seq ?_
              refine TC.region ?_
              refine' TL.y rfl rfl rfl ?hy237 ?_
              case hy237 => exact Yl.assign rfl rfl
              refine TL.nil ?_
              refine TE.next ?_
              refine TC.ret ?_
              refine TE.inRet ?_
              refine TE.thenRet ?_
              refine TE.thenRet ?_
              refine TE.inRet ?_
              refine TE.thenRet ?_
              refine TE.ret1 rfl rfl ?_
              exact fun w h => ⟨by rw [decide_eq_false (fun h : Vld m f => by have := (vld_iff.1 h).2 i (by omega); unfold okN at this; omega)], (h.sub (List.nil_sublist _)).below⟩
            · skip
              (try simp only [decide_eq_true_eq, decide_eq_false_iff_not, beq_iff_eq, beq_eq_false_iff_ne, bne_iff_ne, ne_eq, bne_eq_false_iff_eq, Bool.not_eq_true', Bool.not_eq_false', Int.not_lt, Int.not_le, gt_iff_lt, ge_iff_le] at hs47)
              refine' TL.y rfl rfl rfl ?hy238 ?_
              case hy238 => first | exact Yl.field0 (k := 0) 2 rfl rfl Try.underlying45 rfl (by kernel_rfl) rfl | exact Yl.field (k := 0) 2 rfl rfl Try.underlying45 rfl (by kernel_rfl) rfl
              refine' TL.y rfl rfl rfl ?hy239 ?_
              case hy239 => first | exact Yl.load rfl rfl (by kernel_rfl) (Sl.nws hS (by omega)) | exact Yl.load rfl rfl (by kernel_rfl) (Hp.cell mem0 rfl) | exact Yl.load rfl rfl (by kernel_rfl) (Hp.cell mem1 rfl) | exact Yl.load rfl rfl (by kernel_rfl) (Hp.cell mem2 rfl) | exact Yl.load rfl rfl (by kernel_rfl) (Hp.cell mem3 rfl) | exact Yl.load rfl rfl (by kernel_rfl) (Hp.cell mem4 rfl) | exact Yl.load rfl rfl (by kernel_rfl) (Hp.rowAt mem0 (by omega) rfl) | exact Yl.load rfl rfl (by kernel_rfl) (Hp.rowAt mem1 (by omega) rfl) | exact Yl.load rfl rfl (by kernel_rfl) (Hp.rowAt mem2 (by omega) rfl) | exact Yl.load rfl rfl (by kernel_rfl) (Hp.rowAt mem3 (by omega) rfl) | exact Yl.load rfl rfl (by kernel_rfl) (Hp.rowAt mem4 (by omega) rfl)
              refine' TL.y rfl rfl rfl ?hy240 ?_
              case hy240 => exact Yl.bin rfl rfl rfl (Bin.lss _ _ _ _)
              refine' TL.y rfl rfl rfl ?hy241 ?_
              case hy241 => exact Yl.pickF rfl rfl rfl
              refine' TL.y rfl rfl rfl ?hy242 ?_
              case hy242 => exact Yl.move rfl rfl
              refine TL.split (i := 52) rfl (fun hs52 => ?_) (fun hs52 => ?_)
              · skip
                (try simp only [decide_eq_true_eq, decide_eq_false_iff_not, beq_iff_eq, beq_eq_false_iff_ne, bne_iff_ne, ne_eq, bne_eq_false_iff_eq, Bool.not_eq_true', Bool.not_eq_false', Int.not_lt, Int.not_le, gt_iff_lt, ge_iff_le] at hs52)
                refine TL.skip rfl rfl rfl ?_
                refine TL.skip rfl rfl rfl ?_
                refine TL.skip rfl rfl rfl ?_
                refine' TL.y rfl rfl rfl ?hy243 ?_
                case hy243 => exact Yl.pickT rfl rfl rfl
                refine TL.nil ?_
                refine TE.next ?_
                refine TC.yes rfl rfl ?_
                refine TC.seq ?_
                refine TC.region ?_
                refine' TL.y rfl rfl rfl ?hy244 ?_
                case hy244 => exact Yl.assign rfl rfl
                refine TL.nil ?_
                refine TE.next ?_
                refine TC.ret ?_
                refine TE.inRet ?_
                refine TE.thenRet ?_
                refine TE.thenRet ?_
                refine TE.inRet ?_
                refine TE.thenRet ?_
                refine TE.ret1 rfl rfl ?_
                exact fun w h => ⟨by rw [decide_eq_false (fun h : Vld m f => by have := (vld_iff.1 h).2 i (by omega); unfold okN at this; omega)], (h.sub (List.nil_sublist _)).below⟩
              · skip
                (try simp only [decide_eq_true_eq, decide_eq_false_iff_not, beq_iff_eq, beq_eq_false_iff_ne, bne_iff_ne, ne_eq, bne_eq_false_iff_eq, Bool.not_eq_true', Bool.not_eq_false', Int.not_lt, Int.not_le, gt_iff_lt, ge_iff_le] at hs52)
                refine' TL.y rfl rfl rfl ?hy245 ?_
                case hy245 => first | exact Yl.field0 (k := 0) 2 rfl rfl Try.underlying45 rfl (by kernel_rfl) rfl | exact Yl.field (k := 0) 2 rfl rfl Try.underlying45 rfl (by kernel_rfl) rfl
                refine' TL.y rfl rfl rfl ?hy246 ?_
                case hy246 => first | exact Yl.load rfl rfl (by kernel_rfl) (Sl.nws hS (by omega)) | exact Yl.load rfl rfl (by kernel_rfl) (Hp.cell mem0 rfl) | exact Yl.load rfl rfl (by kernel_rfl) (Hp.cell mem1 rfl) | exact Yl.load rfl rfl (by kernel_rfl) (Hp.cell mem2 rfl) | exact Yl.load rfl rfl (by kernel_rfl) (Hp.cell mem3 rfl) | exact Yl.load rfl rfl (by kernel_rfl) (Hp.cell mem4 rfl) | exact Yl.load rfl rfl (by kernel_rfl) (Hp.rowAt mem0 (by omega) rfl) | exact Yl.load rfl rfl (by kernel_rfl) (Hp.rowAt mem1 (by omega) rfl) | exact Yl.load rfl rfl (by kernel_rfl) (Hp.rowAt mem2 (by omega) rfl) | exact Yl.load rfl rfl (by kernel_rfl) (Hp.rowAt mem3 (by omega) rfl) | exact Yl.load rfl rfl (by kernel_rfl) (Hp.rowAt mem4 (by omega) rfl)
                refine' TL.y rfl rfl rfl ?hy247 ?_
                case hy247 => exact Yl.bin rfl rfl rfl (Bin.gtr _ _ _ _)
                refine' TL.y rfl rfl rfl ?hy248 ?_
                case hy248 => exact Yl.pickF rfl rfl rfl
                refine TL.nil ?_
                refine TE.next ?_
                refine TC.cond rfl (fun hs56 => ?_) (fun hs56 => ?_)
                · skip
                  (try simp only [decide_eq_true_eq, decide_eq_false_iff_not, beq_iff_eq, beq_eq_false_iff_ne, bne_iff_ne, ne_eq, bne_eq_false_iff_eq, Bool.not_eq_true', Bool.not_eq_false', Int.not_lt, Int.not_le, gt_iff_lt, ge_iff_le] at hs56)
                  refine TC.seq ?_
                  refine TC.region ?_
                  refine' TL.y rfl rfl rfl ?hy249 ?_
                  case hy249 => exact Yl.assign rfl rfl
                  refine TL.nil ?_
                  refine TE.next ?_
                  refine TC.ret ?_
                  refine TE.inRet ?_
                  refine TE.thenRet ?_
                  refine TE.thenRet ?_
                  refine TE.inRet ?_
                  refine TE.thenRet ?_
                  refine TE.ret1 rfl rfl ?_
                  exact fun w h => ⟨by rw [decide_eq_false (fun h : Vld m f => by have := (vld_iff.1 h).2 i (by omega); unfold okN at this; omega)], (h.sub (List.nil_sublist _)).below⟩
                · skip
                  (try simp only [decide_eq_true_eq, decide_eq_false_iff_not, beq_iff_eq, beq_eq_false_iff_ne, bne_iff_ne, ne_eq, bne_eq_false_iff_eq, Bool.not_eq_true', Bool.not_eq_false', Int.not_lt, Int.not_le, gt_iff_lt, ge_iff_le] at hs56)
                  refine TC.skip ?_
                  refine TE.inNormal ?_
                  refine TE.next ?_
                  refine TC.region ?_
                  refine' TL.y rfl rfl rfl ?hy250 ?_
                  case hy250 => exact Yl.move rfl rfl
                  refine' TL.y rfl rfl rfl ?hy251 ?_
                  case hy251 => first | (refine Yl.val (Yl.bin rfl rfl rfl (Bin.add _ _ _ _)) (congrArg (Value.int .i64) (i64in ?_ ?_)) <;> omega) | exact Yl.bin rfl rfl rfl (Bin.add _ _ _ _)
                  refine' TL.y rfl rfl rfl ?hy252 ?_
                  case hy252 => exact Yl.assign rfl rfl
                  refine TL.nil ?_
                  refine TE.round (i + 1) ?hF253 ?hlt253 ?hs253 ?hm253
                  case hF253 => exact ⟨by omega, fun j hj => by
                    by_cases e : j = i
                    · subst e; unfold okN; omega
                    · exact hF j (by omega)⟩
                  case hlt253 => omega
                  case hs253 => exact ⟨rfl, rfl, trivial⟩
                  case hm253 => exact fun w h => h.sub (List.nil_sublist _)
    · skip
      (try simp only [decide_eq_true_eq, decide_eq_false_iff_not, beq_iff_eq, beq_eq_false_iff_ne, bne_iff_ne, ne_eq, bne_eq_false_iff_eq, Bool.not_eq_true', Bool.not_eq_false', Int.not_lt, Int.not_le, gt_iff_lt, ge_iff_le] at hs8)
      refine TC.exit ?_
      refine TE.thenExit ?_
      refine TE.thenExit ?_
      refine TE.inHere ?_
      refine TE.next ?_
      refine TC.seq ?_
      refine TC.region ?_
      refine' TL.y rfl rfl rfl ?hy254 ?_
      case hy254 => exact Yl.move rfl rfl
      refine' TL.y rfl rfl rfl ?hy255 ?_
      case hy255 => exact Yl.len rfl rfl Try.underlying28
      refine' TL.y rfl rfl rfl ?hy256 ?_
      case hy256 => exact Yl.bin rfl rfl rfl (Bin.leq _ _ _ _)
      refine' TL.y rfl rfl rfl ?hy257 ?_
      case hy257 => exact Yl.assign rfl rfl
      refine TL.nil ?_
      refine TE.next ?_
      refine TC.ret ?_
      refine TE.ret1 rfl rfl ?_
      obtain rfl : i = m := by omega
      exact fun w h => ⟨by congr 2; apply decide_eq_decide.2; rw [vld_iff]; exact ⟨fun h => ⟨by omega, hF⟩, fun h => by have := h.1; omega⟩, h.below⟩
end Go.Proofs.Ytipdpmmjmlimhaa.Pk
