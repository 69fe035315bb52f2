/- Contracts: sums, what may be split, the arithmetic. -/
import Derived.Test.YthjllhaebanplaaHM
import Derived.Test.YthjllhaebanplaaShP
import Derived.Test.YthjllhaebanplaaProg
import Derived.RowKit3
namespace Go.Proofs.Ythjllhaebanplaa.Pk
open Go Go.RowKit Go.Proofs.Ythjllhaebanplaa.HL Go.Proofs.Ythjllhaebanplaa.Ev Go.Proofs.YthjllhaebanplaaW.PrintWords Go.Proofs.ShP
set_option linter.unusedVariables false
set_option linter.unusedSimpArgs false
theorem u64m (x : Int) : IntKind.u64.wrap x = x % 18446744073709551616 := u64mod x
theorem and32 {x : Int} (h0 : 0 ≤ x) (h1 : x < 18446744073709551616) : Go.bits .and .u64 x 4294967295 = x % 4294967296 :=
  Go.bits_mask .u64 64 (by decide) (fun n h0 h1 => by rw [u64m]; omega) 32 (by decide) x h0 (by omega)
theorem wrap_wrap (x y : Int) : IntKind.i64.wrap (IntKind.i64.wrap x + y) = IntKind.i64.wrap (x + y) := by rw [IntKind.wrap_i64, IntKind.wrap_i64, IntKind.wrap_i64]; omega
def firstF (p : Nat → Bool) : Nat → Nat → Int
  | 0, _ => -1
  | k + 1, i => if p i then (i : Int) else firstF p k (i + 1)
theorem firstF_iff (p : Nat → Bool) : ∀ k i, 0 ≤ firstF p k i ↔ ∃ j, i ≤ j ∧ j < i + k ∧ p j = true
  | 0, i => ⟨fun h => by rw [firstF] at h; omega, fun ⟨j, h1, h2, _⟩ => by omega⟩
  | k + 1, i => by
    rw [firstF]
    by_cases e : p i = true
    · rw [if_pos e]
      exact ⟨fun _ => ⟨i, by omega, by omega, e⟩, fun _ => by omega⟩
    · rw [if_neg e, firstF_iff p k (i + 1)]
      constructor
      · rintro ⟨j, h1, h2, h3⟩; exact ⟨j, by omega, by omega, h3⟩
      · rintro ⟨j, h1, h2, h3⟩
        have : j ≠ i := fun e2 => e (e2 ▸ h3)
        exact ⟨j, by omega, by omega, h3⟩
def oddB (x : Int) : Bool := decide (x < 0 ∨ 1099511627776 < x)
theorem ok_iff {n : Int} {m : Nat} {f : Nat → Int} : Ok n m f ↔ (0 ≤ n ∧ n ≤ 1048576 ∧ m ≤ 64) ∧ ¬ 0 ≤ firstF (fun j => oddB (f j)) m 0 := by
  rw [firstF_iff]
  constructor
  · intro h
    refine ⟨⟨h.n0, h.n1, h.m1⟩, ?_⟩
    rintro ⟨j, _, h2, h3⟩
    have h4 := h.w0 j (by omega); have h5 := h.w1 j (by omega)
    simp only [oddB, decide_eq_true_eq] at h3
    omega
  · rintro ⟨⟨h1, h2, h3⟩, h4⟩
    have h5 : ∀ j, j < m → 0 ≤ f j ∧ f j ≤ 1099511627776 := fun j hj => by
      by_cases e : oddB (f j) = true
      · exact absurd ⟨j, by omega, by omega, e⟩ h4
      · simp only [oddB, decide_eq_true_eq] at e; omega
    exact ⟨h1, h2, h3, fun j hj => (h5 j hj).1, fun j hj => (h5 j hj).2⟩
theorem mul_small {a b : Int} (ha0 : 0 ≤ a) (ha1 : a ≤ 1048576) (hb0 : 0 ≤ b) (hb1 : b ≤ 1099511627776) : 0 ≤ a * b ∧ a * b ≤ 1152921504606846976 := by
  refine ⟨Int.mul_nonneg ha0 hb0, ?_⟩
  have h5 : a * b ≤ 1048576 * b := Int.mul_le_mul_of_nonneg_right ha1 hb0
  omega
theorem mul_lo {a c : Int} (ha0 : 0 ≤ a) (ha1 : a ≤ 1048576) (hc0 : 0 ≤ c) (hc1 : c < 4294967296) : 0 ≤ a * c ∧ a * c ≤ 4503599627370496 := by
  refine ⟨Int.mul_nonneg ha0 hc0, ?_⟩
  have h5 : a * c ≤ 1048576 * c := Int.mul_le_mul_of_nonneg_right ha1 hc0
  omega
set_option maxRecDepth 100000 in
set_option maxHeartbeats 2000000 in
theorem k_sum (W : World) {m : Nat} {f : Nat → Int} {A : Option Addr} {cp : Nat} (hS : Sl W A (Vw m f)) (hm : m ≤ 9223372036854775807) : Calls Try.prog 13 #[.slice A m cp] W fun e w' => e = .returned (.int .i64 (IntKind.i64.wrap (sumF f m))) ∧ Below W.heap.size W w' := by
  have hM : Hp W (fun _ => False) [] W := Hp.start
  refine TC.enter (n := 17) Try.func13 rfl rfl rfl hM ?_
  refine TC.seq ?_
  refine TC.region ?_
  refine' TL.y rfl rfl rfl ?hy1 ?_
  case hy1 => exact Yl.assign rfl rfl
  refine TL.nil ?_
  refine TE.next ?_
  refine TC.seq ?_
  refine TC.region ?_
  refine' TL.y rfl rfl rfl ?hy2 ?_
  case hy2 => exact Yl.assign rfl rfl
  refine TL.nil ?_
  refine TE.next ?_
  refine TC.seq ?_
  refine TC.seq ?_
  refine TC.region ?_
  refine' TL.y rfl rfl rfl ?hy3 ?_
  case hy3 => exact Yl.move rfl rfl
  refine' TL.y rfl rfl rfl ?hy4 ?_
  case hy4 => exact Yl.len rfl rfl Try.underlying22
  refine' TL.y rfl rfl rfl ?hy5 ?_
  case hy5 => exact Yl.move rfl rfl
  refine TL.nil ?_
  refine TE.next ?_
  refine TC.block ?_
  refine TC.loop (σ := Nat) (fun i => [(6, .slice A m cp), (7, .int .i64 (m : Int)), (8, .int .i64 (i : Int)), (3, .int .i64 (IntKind.i64.wrap (sumF f i)))]) (fun i => Hp W (fun _ => False) []) (fun i => i ≤ m) (fun i => m - i) 0 ?hF6 ?hs6 ?hm6 ?round6
  case hF6 => exact Nat.zero_le _
  case hs6 => exact ⟨rfl, rfl, rfl, rfl, trivial⟩
  case hm6 => exact fun _ h => h
  case round6 =>
    intro i hi
    refine TC.seq ?_
    refine TC.region ?_
    refine' TL.y rfl rfl rfl ?hy7 ?_
    case hy7 => exact Yl.bin rfl rfl rfl (Bin.lss _ _ _ _)
    refine TL.nil ?_
    refine TE.next ?_
    refine TC.seq ?_
    refine TC.cond rfl (fun hs9 => ?_) (fun hs9 => ?_)
    · skip
      (try simp only [decide_eq_true_eq, decide_eq_false_iff_not, beq_iff_eq, beq_eq_false_iff_ne, bne_iff_ne, ne_eq, bne_eq_false_iff_eq, Bool.not_eq_true', Bool.not_eq_false', Int.not_lt, Int.not_le, gt_iff_lt, ge_iff_le] at hs9)
      obtain ⟨b, o, rfl⟩ := Sl.some2 hS (by rw [Vw_length]; omega)
      refine TC.skip ?_
      refine TE.next ?_
      refine TC.seq ?_
      refine TC.block ?_
      refine TC.seq ?_
      refine TC.region ?_
      refine' TL.y rfl rfl rfl ?hy8 ?_
      case hy8 => first | exact Yl.ixn rfl rfl rfl Try.underlying22 (by kernel_rfl) (by omega) | exact Yl.ixz rfl rfl rfl Try.underlying22 (by kernel_rfl) (by omega) (by omega) | exact Yl.ixcn rfl rfl rfl Try.underlying22 (by kernel_rfl) (by omega) | exact Yl.ixcz rfl rfl rfl Try.underlying22 (by kernel_rfl) (by omega) (by omega)
      refine' TL.y rfl rfl rfl ?hy9 ?_
      case hy9 => first | exact Yl.load rfl rfl (by kernel_rfl) (Sl.vw hS rfl (by omega) (fun _ h => h)) | exact Yl.load rfl rfl (by kernel_rfl) (Hp.cell mem0 rfl) | exact Yl.load rfl rfl (by kernel_rfl) (Hp.cell mem1 rfl) | exact Yl.load rfl rfl (by kernel_rfl) (Hp.cell mem2 rfl) | exact Yl.load rfl rfl (by kernel_rfl) (Hp.cell mem3 rfl) | exact Yl.load rfl rfl (by kernel_rfl) (Hp.cell mem4 rfl) | exact Yl.load rfl rfl (by kernel_rfl) (Hp.rowAt mem0 (by omega) rfl) | exact Yl.load rfl rfl (by kernel_rfl) (Hp.rowAt mem1 (by omega) rfl) | exact Yl.load rfl rfl (by kernel_rfl) (Hp.rowAt mem2 (by omega) rfl) | exact Yl.load rfl rfl (by kernel_rfl) (Hp.rowAt mem3 (by omega) rfl) | exact Yl.load rfl rfl (by kernel_rfl) (Hp.rowAt mem4 (by omega) rfl)
      refine' TL.y rfl rfl rfl ?hy10 ?_
      case hy10 => exact Yl.assign rfl rfl
      refine TL.nil ?_
      refine TE.next ?_
      refine TC.region ?_
      refine' TL.y rfl rfl rfl ?hy11 ?_
      case hy11 => exact Yl.move rfl rfl
      refine' TL.y rfl rfl rfl ?hy12 ?_
      case hy12 => exact Yl.move rfl rfl
      refine' TL.y rfl rfl rfl ?hy13 ?_
      case hy13 => exact Yl.val (Yl.bin rfl rfl rfl (Bin.add _ _ _ _)) (congrArg (Value.int .i64) (show IntKind.i64.wrap (IntKind.i64.wrap (sumF f i) + f i) = IntKind.i64.wrap (sumF f (i + 1)) from by rw [wrap_wrap, sumF]))
      refine' TL.y rfl rfl rfl ?hy14 ?_
      case hy14 => exact Yl.assign rfl rfl
      refine TL.nil ?_
      refine TE.inNormal ?_
      refine TE.next ?_
      refine TC.region ?_
      refine' TL.y rfl rfl rfl ?hy15 ?_
      case hy15 => first | (refine Yl.val (Yl.bin rfl rfl rfl (Bin.add _ _ _ _)) (congrArg (Value.int .i64) (i64in ?_ ?_)) <;> omega) | exact Yl.bin rfl rfl rfl (Bin.add _ _ _ _)
      refine' TL.y rfl rfl rfl ?hy16 ?_
      case hy16 => exact Yl.move rfl rfl
      refine TL.nil ?_
      refine TE.round (i + 1) ?hF17 ?hlt17 ?hs17 ?hm17
      case hF17 => omega
      case hlt17 => omega
      case hs17 => exact ⟨rfl, rfl, rfl, rfl, trivial⟩
      case hm17 => exact fun _ h => h
    · skip
      (try simp only [decide_eq_true_eq, decide_eq_false_iff_not, beq_iff_eq, beq_eq_false_iff_ne, bne_iff_ne, ne_eq, bne_eq_false_iff_eq, Bool.not_eq_true', Bool.not_eq_false', Int.not_lt, Int.not_le, gt_iff_lt, ge_iff_le] at hs9)
      refine TC.exit ?_
      refine TE.thenExit ?_
      refine TE.thenExit ?_
      refine TE.inHere ?_
      refine TE.next ?_
      refine TC.seq ?_
      refine TC.region ?_
      refine' TL.y rfl rfl rfl ?hy18 ?_
      case hy18 => exact Yl.move rfl rfl
      refine' TL.y rfl rfl rfl ?hy19 ?_
      case hy19 => exact Yl.assign rfl rfl
      refine TL.nil ?_
      refine TE.next ?_
      refine TC.ret ?_
      refine TE.ret1 rfl rfl ?_
      obtain rfl : i = m := by omega
      exact fun w h => ⟨rfl, h.below⟩
set_option maxRecDepth 100000 in
set_option maxHeartbeats 2000000 in
theorem k_rsum (W : World) {m : Nat} {f : Nat → Int} {A : Option Addr} {cp : Nat} (hS : Sl W A (Vw m f)) (hm : m ≤ 9223372036854775807) : Calls Try.prog 14 #[.slice A m cp] W fun e w' => e = .returned (.int .i64 (IntKind.i64.wrap (sumF f m))) ∧ Below W.heap.size W w' := by
  have hM : Hp W (fun _ => False) [] W := Hp.start
  refine TC.enter (n := 18) Try.func14 rfl rfl rfl hM ?_
  refine TC.seq ?_
  refine TC.region ?_
  refine' TL.y rfl rfl rfl ?hy1 ?_
  case hy1 => exact Yl.assign rfl rfl
  refine TL.nil ?_
  refine TE.next ?_
  refine TC.seq ?_
  refine TC.region ?_
  refine' TL.y rfl rfl rfl ?hy2 ?_
  case hy2 => exact Yl.assign rfl rfl
  refine TL.nil ?_
  refine TE.next ?_
  refine TC.seq ?_
  refine TC.seq ?_
  refine TC.region ?_
  refine' TL.y rfl rfl rfl ?hy3 ?_
  case hy3 => exact Yl.assign rfl rfl
  refine TL.nil ?_
  refine TE.next ?_
  refine TC.block ?_
  refine TC.loop (σ := Nat) (fun i => [(0, .slice A m cp), (4, .int .i64 (i : Int)), (3, .int .i64 (IntKind.i64.wrap (sumF f i)))]) (fun i => Hp W (fun _ => False) []) (fun i => i ≤ m) (fun i => m - i) 0 ?hF4 ?hs4 ?hm4 ?round4
  case hF4 => exact Nat.zero_le _
  case hs4 => exact ⟨rfl, rfl, rfl, trivial⟩
  case hm4 => exact fun _ h => h
  case round4 =>
    intro i hi
    refine TC.seq ?_
    refine TC.seq ?_
    refine TC.region ?_
    refine' TL.y rfl rfl rfl ?hy5 ?_
    case hy5 => exact Yl.move rfl rfl
    refine' TL.y rfl rfl rfl ?hy6 ?_
    case hy6 => exact Yl.move rfl rfl
    refine' TL.y rfl rfl rfl ?hy7 ?_
    case hy7 => exact Yl.len rfl rfl Try.underlying22
    refine' TL.y rfl rfl rfl ?hy8 ?_
    case hy8 => exact Yl.bin rfl rfl rfl (Bin.lss _ _ _ _)
    refine TL.nil ?_
    refine TE.next ?_
    refine TC.cond rfl (fun hs8 => ?_) (fun hs8 => ?_)
    · skip
      (try simp only [decide_eq_true_eq, decide_eq_false_iff_not, beq_iff_eq, beq_eq_false_iff_ne, bne_iff_ne, ne_eq, bne_eq_false_iff_eq, Bool.not_eq_true', Bool.not_eq_false', Int.not_lt, Int.not_le, gt_iff_lt, ge_iff_le] at hs8)
      obtain ⟨b, o, rfl⟩ := Sl.some2 hS (by rw [Vw_length]; omega)
      refine TC.skip ?_
      refine TE.next ?_
      refine TC.seq ?_
      refine TC.block ?_
      refine TC.region ?_
      refine' TL.y rfl rfl rfl ?hy9 ?_
      case hy9 => exact Yl.move rfl rfl
      refine' TL.y rfl rfl rfl ?hy10 ?_
      case hy10 => exact Yl.move rfl rfl
      refine' TL.y rfl rfl rfl ?hy11 ?_
      case hy11 => exact Yl.move rfl rfl
      refine' TL.y rfl rfl rfl ?hy12 ?_
      case hy12 => first | exact Yl.ixn rfl rfl rfl Try.underlying22 (by kernel_rfl) (by omega) | exact Yl.ixz rfl rfl rfl Try.underlying22 (by kernel_rfl) (by omega) (by omega) | exact Yl.ixcn rfl rfl rfl Try.underlying22 (by kernel_rfl) (by omega) | exact Yl.ixcz rfl rfl rfl Try.underlying22 (by kernel_rfl) (by omega) (by omega)
      refine' TL.y rfl rfl rfl ?hy13 ?_
      case hy13 => first | exact Yl.load rfl rfl (by kernel_rfl) (Sl.vw hS rfl (by omega) (fun _ h => h)) | exact Yl.load rfl rfl (by kernel_rfl) (Hp.cell mem0 rfl) | exact Yl.load rfl rfl (by kernel_rfl) (Hp.cell mem1 rfl) | exact Yl.load rfl rfl (by kernel_rfl) (Hp.cell mem2 rfl) | exact Yl.load rfl rfl (by kernel_rfl) (Hp.cell mem3 rfl) | exact Yl.load rfl rfl (by kernel_rfl) (Hp.cell mem4 rfl) | exact Yl.load rfl rfl (by kernel_rfl) (Hp.rowAt mem0 (by omega) rfl) | exact Yl.load rfl rfl (by kernel_rfl) (Hp.rowAt mem1 (by omega) rfl) | exact Yl.load rfl rfl (by kernel_rfl) (Hp.rowAt mem2 (by omega) rfl) | exact Yl.load rfl rfl (by kernel_rfl) (Hp.rowAt mem3 (by omega) rfl) | exact Yl.load rfl rfl (by kernel_rfl) (Hp.rowAt mem4 (by omega) rfl)
      refine' TL.y rfl rfl rfl ?hy14 ?_
      case hy14 => exact Yl.val (Yl.bin rfl rfl rfl (Bin.add _ _ _ _)) (congrArg (Value.int .i64) (show IntKind.i64.wrap (IntKind.i64.wrap (sumF f i) + f i) = IntKind.i64.wrap (sumF f (i + 1)) from by rw [wrap_wrap, sumF]))
      refine' TL.y rfl rfl rfl ?hy15 ?_
      case hy15 => exact Yl.assign rfl rfl
      refine TL.nil ?_
      refine TE.inNormal ?_
      refine TE.next ?_
      refine TC.region ?_
      refine' TL.y rfl rfl rfl ?hy16 ?_
      case hy16 => exact Yl.move rfl rfl
      refine' TL.y rfl rfl rfl ?hy17 ?_
      case hy17 => first | (refine Yl.val (Yl.bin rfl rfl rfl (Bin.add _ _ _ _)) (congrArg (Value.int .i64) (i64in ?_ ?_)) <;> omega) | exact Yl.bin rfl rfl rfl (Bin.add _ _ _ _)
      refine' TL.y rfl rfl rfl ?hy18 ?_
      case hy18 => exact Yl.assign rfl rfl
      refine TL.nil ?_
      refine TE.round (i + 1) ?hF19 ?hlt19 ?hs19 ?hm19
      case hF19 => omega
      case hlt19 => omega
      case hs19 => exact ⟨rfl, rfl, rfl, trivial⟩
      case hm19 => exact fun _ h => h
    · skip
      (try simp only [decide_eq_true_eq, decide_eq_false_iff_not, beq_iff_eq, beq_eq_false_iff_ne, bne_iff_ne, ne_eq, bne_eq_false_iff_eq, Bool.not_eq_true', Bool.not_eq_false', Int.not_lt, Int.not_le, gt_iff_lt, ge_iff_le] at hs8)
      refine TC.exit ?_
      refine TE.thenExit ?_
      refine TE.thenExit ?_
      refine TE.inHere ?_
      refine TE.next ?_
      refine TC.seq ?_
      refine TC.region ?_
      refine' TL.y rfl rfl rfl ?hy20 ?_
      case hy20 => exact Yl.move rfl rfl
      refine' TL.y rfl rfl rfl ?hy21 ?_
      case hy21 => exact Yl.assign rfl rfl
      refine TL.nil ?_
      refine TE.next ?_
      refine TC.ret ?_
      refine TE.ret1 rfl rfl ?_
      obtain rfl : i = m := by omega
      exact fun w h => ⟨rfl, h.below⟩
set_option maxRecDepth 100000 in
set_option maxHeartbeats 2000000 in
theorem k_odd (W : World) (x : Int) : Calls Try.prog 25 #[.int .i64 x] W fun e w' => e = .returned (.bool (oddB x)) ∧ Below W.heap.size W w' := by
  have hM : Hp W (fun _ => False) [] W := Hp.start
  refine TC.enter (n := 9) Try.func25 rfl rfl rfl hM ?_
  refine TC.seq ?_
  refine TC.region ?_
  refine' TL.y rfl rfl rfl ?hy1 ?_
  case hy1 => exact Yl.assign rfl rfl
  refine TL.nil ?_
  refine TE.next ?_
  refine TC.seq ?_
  refine TC.region ?_
  refine' TL.y rfl rfl rfl ?hy2 ?_
  case hy2 => exact Yl.move rfl rfl
  refine' TL.y rfl rfl rfl ?hy3 ?_
  case hy3 => exact Yl.bin rfl rfl rfl (Bin.lss _ _ _ _)
  refine' TL.y rfl rfl rfl ?hy4 ?_
  case hy4 => exact Yl.move rfl rfl
  refine TL.split (i := 5) rfl (fun hs5 => ?_) (fun hs5 => ?_)
  · skip
    (try simp only [decide_eq_true_eq, decide_eq_false_iff_not, beq_iff_eq, beq_eq_false_iff_ne, bne_iff_ne, ne_eq, bne_eq_false_iff_eq, Bool.not_eq_true', Bool.not_eq_false', Int.not_lt, Int.not_le, gt_iff_lt, ge_iff_le] at hs5)
    refine TL.skip rfl rfl rfl ?_
    refine TL.skip rfl rfl rfl ?_
    refine' TL.y rfl rfl rfl ?hy5 ?_
    case hy5 => exact Yl.pickT rfl rfl rfl
    refine' TL.y rfl rfl rfl ?hy6 ?_
    case hy6 => exact Yl.assign rfl rfl
    refine TL.nil ?_
    refine TE.next ?_
    refine TC.ret ?_
    refine TE.ret1 rfl rfl ?_
    exact fun w h => ⟨by unfold oddB; rw [decide_eq_true (by omega)], h.below⟩
  · skip
    (try simp only [decide_eq_true_eq, decide_eq_false_iff_not, beq_iff_eq, beq_eq_false_iff_ne, bne_iff_ne, ne_eq, bne_eq_false_iff_eq, Bool.not_eq_true', Bool.not_eq_false', Int.not_lt, Int.not_le, gt_iff_lt, ge_iff_le] at hs5)
    refine' TL.y rfl rfl rfl ?hy7 ?_
    case hy7 => exact Yl.move rfl rfl
    refine' TL.y rfl rfl rfl ?hy8 ?_
    case hy8 => exact Yl.bin rfl rfl rfl (Bin.gtr _ _ _ _)
    refine' TL.y rfl rfl rfl ?hy9 ?_
    case hy9 => exact Yl.pickF rfl rfl rfl
    refine' TL.y rfl rfl rfl ?hy10 ?_
    case hy10 => exact Yl.assign rfl rfl
    refine TL.nil ?_
    refine TE.next ?_
    refine TC.ret ?_
    refine TE.ret1 rfl rfl ?_
    exact fun w h => ⟨by unfold oddB; congr 2; apply decide_eq_decide.2; omega, h.below⟩
set_option maxRecDepth 100000 in
set_option maxHeartbeats 2000000 in
theorem k_index (W : World) {m : Nat} {f : Nat → Int} {A : Option Addr} {cp : Nat} (hS : Sl W A (Vw m f)) (hm : m ≤ 9223372036854775807) : Calls Try.prog 30 #[.slice A m cp, .func (.func 25) #[] #[]] W fun e w' => e = .returned (.int .i64 (firstF (fun j => oddB (f j)) m 0)) ∧ Below W.heap.size W w' := by
  have hM : Hp W (fun _ => False) [] W := Hp.start
  refine TC.enter (n := 19) Try.func30 rfl rfl rfl hM ?_
  refine TC.seq ?_
  refine TC.region ?_
  refine' TL.y rfl rfl rfl ?hy1 ?_
  case hy1 => exact Yl.assign rfl rfl
  refine TL.nil ?_
  refine TE.next ?_
  refine TC.seq ?_
  refine TC.seq ?_
  refine TC.region ?_
  refine' TL.y rfl rfl rfl ?hy2 ?_
  case hy2 => exact Yl.move rfl rfl
  refine' TL.y rfl rfl rfl ?hy3 ?_
  case hy3 => exact Yl.len rfl rfl Try.underlying22
  refine' TL.y rfl rfl rfl ?hy4 ?_
  case hy4 => exact Yl.move rfl rfl
  refine TL.nil ?_
  refine TE.next ?_
  refine TC.block ?_
  refine TC.loop (σ := Nat) (fun i => [(0, .slice A m cp), (1, .func (.func 25) #[] #[]), (7, .int .i64 (m : Int)), (8, .int .i64 (i : Int))]) (fun i => Hp W (fun _ => False) []) (fun i => i ≤ m ∧ firstF (fun j => oddB (f j)) (m - i) i = firstF (fun j => oddB (f j)) m 0) (fun i => m - i) 0 ?hF5 ?hs5 ?hm5 ?round5
  case hF5 => exact ⟨Nat.zero_le _, rfl⟩
  case hs5 => exact ⟨rfl, rfl, rfl, rfl, trivial⟩
  case hm5 => exact fun _ h => h
  case round5 =>
    rintro i ⟨hi, hF⟩
    refine TC.seq ?_
    refine TC.region ?_
    refine' TL.y rfl rfl rfl ?hy6 ?_
    case hy6 => exact Yl.bin rfl rfl rfl (Bin.lss _ _ _ _)
    refine TL.nil ?_
    refine TE.next ?_
    refine TC.seq ?_
    refine TC.cond rfl (fun hs9 => ?_) (fun hs9 => ?_)
    · skip
      (try simp only [decide_eq_true_eq, decide_eq_false_iff_not, beq_iff_eq, beq_eq_false_iff_ne, bne_iff_ne, ne_eq, bne_eq_false_iff_eq, Bool.not_eq_true', Bool.not_eq_false', Int.not_lt, Int.not_le, gt_iff_lt, ge_iff_le] at hs9)
      obtain ⟨b, o, rfl⟩ := Sl.some2 hS (by rw [Vw_length]; omega)
      have hq : firstF (fun j => oddB (f j)) (m - i) i = if oddB (f i) then (i : Int) else firstF (fun j => oddB (f j)) (m - (i + 1)) (i + 1) := by rw [show m - i = (m - (i + 1)) + 1 by omega]; rfl
      refine TC.skip ?_
      refine TE.next ?_
      refine TC.seq ?_
      refine TC.block ?_
      refine TC.seq ?_
      refine TC.region ?_
      refine' TL.y rfl rfl rfl ?hy7 ?_
      case hy7 => exact Yl.move rfl rfl
      refine' TL.y rfl rfl rfl ?hy8 ?_
      case hy8 => exact Yl.assign rfl rfl
      refine TL.nil ?_
      refine TE.next ?_
      refine TC.seq ?_
      refine TC.region ?_
      refine' TL.y rfl rfl rfl ?hy9 ?_
      case hy9 => exact Yl.move rfl rfl
      refine' TL.y rfl rfl rfl ?hy10 ?_
      case hy10 => exact Yl.move rfl rfl
      refine' TL.y rfl rfl rfl ?hy11 ?_
      case hy11 => exact Yl.move rfl rfl
      refine' TL.y rfl rfl rfl ?hy12 ?_
      case hy12 => first | exact Yl.ixn rfl rfl rfl Try.underlying22 (by kernel_rfl) (by omega) | exact Yl.ixz rfl rfl rfl Try.underlying22 (by kernel_rfl) (by omega) (by omega) | exact Yl.ixcn rfl rfl rfl Try.underlying22 (by kernel_rfl) (by omega) | exact Yl.ixcz rfl rfl rfl Try.underlying22 (by kernel_rfl) (by omega) (by omega)
      refine' TL.y rfl rfl rfl ?hy13 ?_
      case hy13 => first | exact Yl.load rfl rfl (by kernel_rfl) (Sl.vw hS rfl (by omega) (fun _ h => h)) | exact Yl.load rfl rfl (by kernel_rfl) (Hp.cell mem0 rfl) | exact Yl.load rfl rfl (by kernel_rfl) (Hp.cell mem1 rfl) | exact Yl.load rfl rfl (by kernel_rfl) (Hp.cell mem2 rfl) | exact Yl.load rfl rfl (by kernel_rfl) (Hp.cell mem3 rfl) | exact Yl.load rfl rfl (by kernel_rfl) (Hp.cell mem4 rfl) | exact Yl.load rfl rfl (by kernel_rfl) (Hp.rowAt mem0 (by omega) rfl) | exact Yl.load rfl rfl (by kernel_rfl) (Hp.rowAt mem1 (by omega) rfl) | exact Yl.load rfl rfl (by kernel_rfl) (Hp.rowAt mem2 (by omega) rfl) | exact Yl.load rfl rfl (by kernel_rfl) (Hp.rowAt mem3 (by omega) rfl) | exact Yl.load rfl rfl (by kernel_rfl) (Hp.rowAt mem4 (by omega) rfl)
      refine' TL.c rfl rfl rfl ?hy14 ?_
      case hy14 => exact Yc.callv rfl rfl Try.func25 (by kernel_rfl) rfl rfl (Hp.calls (fun w h => k_odd w _))
      intro _
      refine TL.nil ?_
      refine TE.next ?_
      refine TC.cond rfl (fun hs16 => ?_) (fun hs16 => ?_)
      · skip
        (try simp only [decide_eq_true_eq, decide_eq_false_iff_not, beq_iff_eq, beq_eq_false_iff_ne, bne_iff_ne, ne_eq, bne_eq_false_iff_eq, Bool.not_eq_true', Bool.not_eq_false', Int.not_lt, Int.not_le, gt_iff_lt, ge_iff_le] at hs16)
        refine TC.seq ?_
        refine TC.region ?_
        refine' TL.y rfl rfl rfl ?hy15 ?_
        case hy15 => exact Yl.move rfl rfl
        refine' TL.y rfl rfl rfl ?hy16 ?_
        case hy16 => exact Yl.assign rfl rfl
        refine TL.nil ?_
        refine TE.next ?_
        refine TC.ret ?_
        refine TE.inRet ?_
        refine TE.thenRet ?_
        refine TE.thenRet ?_
        refine TE.inRet ?_
        refine TE.thenRet ?_
        refine TE.ret1 rfl rfl ?_
        rw [if_pos (by simpa using hs16)] at hq
        exact fun w h => ⟨by rw [← hF, hq], h.below⟩
      · skip
        (try simp only [decide_eq_true_eq, decide_eq_false_iff_not, beq_iff_eq, beq_eq_false_iff_ne, bne_iff_ne, ne_eq, bne_eq_false_iff_eq, Bool.not_eq_true', Bool.not_eq_false', Int.not_lt, Int.not_le, gt_iff_lt, ge_iff_le] at hs16)
        rw [if_neg (by simpa using hs16)] at hq
        refine TC.skip ?_
        refine TE.inNormal ?_
        refine TE.next ?_
        refine TC.region ?_
        refine' TL.y rfl rfl rfl ?hy17 ?_
        case hy17 => first | (refine Yl.val (Yl.bin rfl rfl rfl (Bin.add _ _ _ _)) (congrArg (Value.int .i64) (i64in ?_ ?_)) <;> omega) | exact Yl.bin rfl rfl rfl (Bin.add _ _ _ _)
        refine' TL.y rfl rfl rfl ?hy18 ?_
        case hy18 => exact Yl.move rfl rfl
        refine TL.nil ?_
        refine TE.round (i + 1) ?hF19 ?hlt19 ?hs19 ?hm19
        case hF19 => exact ⟨by omega, by rw [← hF]; exact hq.symm⟩
        case hlt19 => omega
        case hs19 => exact ⟨rfl, rfl, rfl, rfl, trivial⟩
        case hm19 => exact fun _ h => h
    · skip
      (try simp only [decide_eq_true_eq, decide_eq_false_iff_not, beq_iff_eq, beq_eq_false_iff_ne, bne_iff_ne, ne_eq, bne_eq_false_iff_eq, Bool.not_eq_true', Bool.not_eq_false', Int.not_lt, Int.not_le, gt_iff_lt, ge_iff_le] at hs9)
      refine TC.exit ?_
      refine TE.thenExit ?_
      refine TE.thenExit ?_
      refine TE.inHere ?_
      refine TE.next ?_
      refine TC.seq ?_
      refine TC.region ?_
      refine' TL.y rfl rfl rfl ?hy20 ?_
      case hy20 => exact Yl.assign rfl rfl
      refine TL.nil ?_
      refine TE.next ?_
      refine TC.ret ?_
      refine TE.ret1 rfl rfl ?_
      obtain rfl : i = m := by omega
      rw [Nat.sub_self] at hF
      exact fun w h => ⟨by rw [← hF]; rfl, h.below⟩
set_option maxRecDepth 100000 in
set_option maxHeartbeats 2000000 in
theorem k_contains (W : World) {m : Nat} {f : Nat → Int} {A : Option Addr} {cp : Nat} (hS : Sl W A (Vw m f)) (hm : m ≤ 9223372036854775807) : Calls Try.prog 26 #[.slice A m cp, .func (.func 25) #[] #[]] W fun e w' => e = .returned (.bool (decide (0 ≤ firstF (fun j => oddB (f j)) m 0))) ∧ Below W.heap.size W w' := by
  have hM : Hp W (fun _ => False) [] W := Hp.start
  refine TC.enter (n := 9) Try.func26 rfl rfl rfl hM ?_
  refine TC.seq ?_
  refine TC.region ?_
  refine' TL.y rfl rfl rfl ?hy1 ?_
  case hy1 => exact Yl.assign rfl rfl
  refine TL.nil ?_
  refine TE.next ?_
  refine TC.seq ?_
  refine TC.region ?_
  refine' TL.y rfl rfl rfl ?hy2 ?_
  case hy2 => exact Yl.move rfl rfl
  refine' TL.y rfl rfl rfl ?hy3 ?_
  case hy3 => exact Yl.move rfl rfl
  refine' TL.c rfl rfl rfl ?hy4 ?_
  case hy4 => exact Yc.call rfl Try.func30 (by kernel_rfl) rfl rfl (Hp.calls (fun w h => k_index w (hS.below h.below) hm))
  intro _
  refine' TL.y rfl rfl rfl ?hy5 ?_
  case hy5 => exact Yl.bin rfl rfl rfl (Bin.geq _ _ _ _)
  refine' TL.y rfl rfl rfl ?hy6 ?_
  case hy6 => exact Yl.assign rfl rfl
  refine TL.nil ?_
  refine TE.next ?_
  refine TC.ret ?_
  refine TE.ret1 rfl rfl ?_
  exact fun w h => ⟨rfl, h.below⟩
set_option maxRecDepth 100000 in
set_option maxHeartbeats 2000000 in
theorem k_right (W : World) {m : Nat} {f : Nat → Int} {A : Option Addr} {cp : Nat} (hS : Sl W A (Vw m f)) (hm : m ≤ 9223372036854775807) (n : Int) : Calls Try.prog 18 #[.int .i64 n, .slice A m cp] W fun e w' => e = .returned (.bool (decide (Ok n m f))) ∧ Below W.heap.size W w' := by
  have hM : Hp W (fun _ => False) [] W := Hp.start
  refine TC.enter (n := 23) Try.func18 rfl rfl rfl hM ?_
  refine TC.seq ?_
  refine TC.region ?_
  refine' TL.y rfl rfl rfl ?hy1 ?_
  case hy1 => exact Yl.assign rfl rfl
  refine TL.nil ?_
  refine TE.next ?_
  refine TC.seq ?_
  refine TC.region ?_
  refine' TL.y rfl rfl rfl ?hy2 ?_
  case hy2 => exact Yl.assign rfl rfl
  refine TL.nil ?_
  refine TE.next ?_
  refine TC.seq ?_
  refine TC.region ?_
  refine' TL.y rfl rfl rfl ?hy3 ?_
  case hy3 => exact Yl.move rfl rfl
  refine' TL.y rfl rfl rfl ?hy4 ?_
  case hy4 => exact Yl.bin rfl rfl rfl (Bin.leq _ _ _ _)
  refine' TL.y rfl rfl rfl ?hy5 ?_
  case hy5 => exact Yl.move rfl rfl
  refine TL.split (i := 8) rfl (fun hs8 => ?_) (fun hs8 => ?_)
  · skip
    (try simp only [decide_eq_true_eq, decide_eq_false_iff_not, beq_iff_eq, beq_eq_false_iff_ne, bne_iff_ne, ne_eq, bne_eq_false_iff_eq, Bool.not_eq_true', Bool.not_eq_false', Int.not_lt, Int.not_le, gt_iff_lt, ge_iff_le] at hs8)
    refine' TL.y rfl rfl rfl ?hy6 ?_
    case hy6 => exact Yl.move rfl rfl
    refine' TL.y rfl rfl rfl ?hy7 ?_
    case hy7 => exact Yl.bin rfl rfl rfl (Bin.leq _ _ _ _)
    refine' TL.y rfl rfl rfl ?hy8 ?_
    case hy8 => exact Yl.pickT rfl rfl rfl
    refine' TL.y rfl rfl rfl ?hy9 ?_
    case hy9 => exact Yl.move rfl rfl
    refine TL.split (i := 12) rfl (fun hs12 => ?_) (fun hs12 => ?_)
    · skip
      (try simp only [decide_eq_true_eq, decide_eq_false_iff_not, beq_iff_eq, beq_eq_false_iff_ne, bne_iff_ne, ne_eq, bne_eq_false_iff_eq, Bool.not_eq_true', Bool.not_eq_false', Int.not_lt, Int.not_le, gt_iff_lt, ge_iff_le] at hs12)
      refine' TL.y rfl rfl rfl ?hy10 ?_
      case hy10 => exact Yl.move rfl rfl
      refine' TL.y rfl rfl rfl ?hy11 ?_
      case hy11 => exact Yl.len rfl rfl Try.underlying22
      refine' TL.y rfl rfl rfl ?hy12 ?_
      case hy12 => exact Yl.bin rfl rfl rfl (Bin.leq _ _ _ _)
      refine' TL.y rfl rfl rfl ?hy13 ?_
      case hy13 => exact Yl.pickT rfl rfl rfl
      refine' TL.y rfl rfl rfl ?hy14 ?_
      case hy14 => exact Yl.move rfl rfl
      refine TL.split (i := 17) rfl (fun hs17 => ?_) (fun hs17 => ?_)
      · skip
        (try simp only [decide_eq_true_eq, decide_eq_false_iff_not, beq_iff_eq, beq_eq_false_iff_ne, bne_iff_ne, ne_eq, bne_eq_false_iff_eq, Bool.not_eq_true', Bool.not_eq_false', Int.not_lt, Int.not_le, gt_iff_lt, ge_iff_le] at hs17)
        refine' TL.y rfl rfl rfl ?hy15 ?_
        case hy15 => exact Yl.move rfl rfl
        refine' TL.y rfl rfl rfl ?hy16 ?_
        case hy16 => exact Yl.move rfl rfl
        refine' TL.c rfl rfl rfl ?hy17 ?_
        case hy17 => exact Yc.call rfl Try.func26 (by kernel_rfl) rfl rfl (Hp.calls (fun w h => k_contains w (hS.below h.below) hm))
        intro _
        refine' TL.y rfl rfl rfl ?hy18 ?_
        case hy18 => exact Yl.not rfl rfl
        refine' TL.y rfl rfl rfl ?hy19 ?_
        case hy19 => exact Yl.pickT rfl rfl rfl
        refine' TL.y rfl rfl rfl ?hy20 ?_
        case hy20 => exact Yl.assign rfl rfl
        refine TL.nil ?_
        refine TE.next ?_
        refine TC.ret ?_
        refine TE.ret1 rfl rfl ?_
        exact fun w h => ⟨by congr 2; rw [← decide_not]; apply decide_eq_decide.2; rw [ok_iff]; exact ⟨fun h => ⟨by omega, h⟩, fun h => h.2⟩, h.below⟩
      · skip
        (try simp only [decide_eq_true_eq, decide_eq_false_iff_not, beq_iff_eq, beq_eq_false_iff_ne, bne_iff_ne, ne_eq, bne_eq_false_iff_eq, Bool.not_eq_true', Bool.not_eq_false', Int.not_lt, Int.not_le, gt_iff_lt, ge_iff_le] at hs17)
        refine TL.skip rfl rfl rfl ?_
        refine TL.skip rfl rfl rfl ?_
        refine TL.skip rfl rfl rfl ?_
        refine TL.skip rfl rfl rfl ?_
        refine' TL.y rfl rfl rfl ?hy21 ?_
        case hy21 => exact Yl.pickF rfl rfl rfl
        refine' TL.y rfl rfl rfl ?hy22 ?_
        case hy22 => exact Yl.assign rfl rfl
        refine TL.nil ?_
        refine TE.next ?_
        refine TC.ret ?_
        refine TE.ret1 rfl rfl ?_
        exact fun w h => ⟨by rw [decide_eq_false (fun h : Ok n m f => by have := h.n0; have := h.n1; have := h.m1; omega)], h.below⟩
    · skip
      (try simp only [decide_eq_true_eq, decide_eq_false_iff_not, beq_iff_eq, beq_eq_false_iff_ne, bne_iff_ne, ne_eq, bne_eq_false_iff_eq, Bool.not_eq_true', Bool.not_eq_false', Int.not_lt, Int.not_le, gt_iff_lt, ge_iff_le] at hs12)
      refine TL.skip rfl rfl rfl ?_
      refine TL.skip rfl rfl rfl ?_
      refine TL.skip rfl rfl rfl ?_
      refine' TL.y rfl rfl rfl ?hy23 ?_
      case hy23 => exact Yl.pickF rfl rfl rfl
      refine' TL.y rfl rfl rfl ?hy24 ?_
      case hy24 => exact Yl.move rfl rfl
      refine TL.skip rfl rfl rfl ?_
      refine TL.skip rfl rfl rfl ?_
      refine TL.skip rfl rfl rfl ?_
      refine TL.skip rfl rfl rfl ?_
      refine' TL.y rfl rfl rfl ?hy25 ?_
      case hy25 => exact Yl.pickF rfl rfl rfl
      refine' TL.y rfl rfl rfl ?hy26 ?_
      case hy26 => exact Yl.assign rfl rfl
      refine TL.nil ?_
      refine TE.next ?_
      refine TC.ret ?_
      refine TE.ret1 rfl rfl ?_
      exact fun w h => ⟨by rw [decide_eq_false (fun h : Ok n m f => by have := h.n0; have := h.n1; have := h.m1; omega)], h.below⟩
  · skip
    (try simp only [decide_eq_true_eq, decide_eq_false_iff_not, beq_iff_eq, beq_eq_false_iff_ne, bne_iff_ne, ne_eq, bne_eq_false_iff_eq, Bool.not_eq_true', Bool.not_eq_false', Int.not_lt, Int.not_le, gt_iff_lt, ge_iff_le] at hs8)
    refine TL.skip rfl rfl rfl ?_
    refine TL.skip rfl rfl rfl ?_
    refine' TL.y rfl rfl rfl ?hy27 ?_
    case hy27 => exact Yl.pickF rfl rfl rfl
    refine' TL.y rfl rfl rfl ?hy28 ?_
    case hy28 => exact Yl.move rfl rfl
    refine TL.skip rfl rfl rfl ?_
    refine TL.skip rfl rfl rfl ?_
    refine TL.skip rfl rfl rfl ?_
    refine' TL.y rfl rfl rfl ?hy29 ?_
    case hy29 => exact Yl.pickF rfl rfl rfl
    refine' TL.y rfl rfl rfl ?hy30 ?_
    case hy30 => exact Yl.move rfl rfl
    refine TL.skip rfl rfl rfl ?_
    refine TL.skip rfl rfl rfl ?_
    refine TL.skip rfl rfl rfl ?_
    refine TL.skip rfl rfl rfl ?_
    refine' TL.y rfl rfl rfl ?hy31 ?_
    case hy31 => exact Yl.pickF rfl rfl rfl
    refine' TL.y rfl rfl rfl ?hy32 ?_
    case hy32 => exact Yl.assign rfl rfl
    refine TL.nil ?_
    refine TE.next ?_
    refine TC.ret ?_
    refine TE.ret1 rfl rfl ?_
    exact fun w h => ⟨by rw [decide_eq_false (fun h : Ok n m f => by have := h.n0; have := h.n1; have := h.m1; omega)], h.below⟩
set_option maxRecDepth 100000 in
set_option maxHeartbeats 2000000 in
theorem k_rright (W : World) {m : Nat} {f : Nat → Int} {A : Option Addr} {cp : Nat} (hS : Sl W A (Vw m f)) (hm : m ≤ 9223372036854775807) (n : Int) : Calls Try.prog 17 #[.int .i64 n, .slice A m cp] W fun e w' => e = .returned (.bool (decide (Ok n m f))) ∧ Below W.heap.size W w' := by
  have hM : Hp W (fun _ => False) [] W := Hp.start
  refine TC.enter (n := 35) Try.func17 rfl rfl rfl hM ?_
  refine TC.seq ?_
  refine TC.region ?_
  refine' TL.y rfl rfl rfl ?hy1 ?_
  case hy1 => exact Yl.assign rfl rfl
  refine TL.nil ?_
  refine TE.next ?_
  refine TC.seq ?_
  refine TC.seq ?_
  refine TC.region ?_
  refine' TL.y rfl rfl rfl ?hy2 ?_
  case hy2 => exact Yl.assign rfl rfl
  refine TL.nil ?_
  refine TE.next ?_
  refine TC.block ?_
  refine TC.loop (σ := Nat) (fun i => [(0, .int .i64 n), (1, .slice A m cp), (5, .int .i64 (i : Int))]) (fun i => Hp W (fun _ => False) []) (fun i => i ≤ m ∧ ∀ j, j < i → 0 ≤ f j ∧ f j ≤ 1099511627776) (fun i => m - i) 0 ?hF3 ?hs3 ?hm3 ?round3
  case hF3 => exact ⟨Nat.zero_le _, fun j hj => by omega⟩
  case hs3 => exact ⟨rfl, rfl, rfl, trivial⟩
  case hm3 => exact fun _ h => h
  case round3 =>
    rintro i ⟨hi, hF⟩
    refine TC.seq ?_
    refine TC.seq ?_
    refine TC.region ?_
    refine' TL.y rfl rfl rfl ?hy4 ?_
    case hy4 => exact Yl.move rfl rfl
    refine' TL.y rfl rfl rfl ?hy5 ?_
    case hy5 => exact Yl.move rfl rfl
    refine' TL.y rfl rfl rfl ?hy6 ?_
    case hy6 => exact Yl.len rfl rfl Try.underlying22
    refine' TL.y rfl rfl rfl ?hy7 ?_
    case hy7 => exact Yl.bin rfl rfl rfl (Bin.lss _ _ _ _)
    refine TL.nil ?_
    refine TE.next ?_
    refine TC.cond rfl (fun hs9 => ?_) (fun hs9 => ?_)
    · skip
      (try simp only [decide_eq_true_eq, decide_eq_false_iff_not, beq_iff_eq, beq_eq_false_iff_ne, bne_iff_ne, ne_eq, bne_eq_false_iff_eq, Bool.not_eq_true', Bool.not_eq_false', Int.not_lt, Int.not_le, gt_iff_lt, ge_iff_le] at hs9)
      obtain ⟨b, o, rfl⟩ := Sl.some2 hS (by rw [Vw_length]; omega)
      refine TC.skip ?_
      refine TE.next ?_
      refine TC.seq ?_
      refine TC.block ?_
      refine TC.seq ?_
      refine TC.region ?_
      refine' TL.y rfl rfl rfl ?hy8 ?_
      case hy8 => exact Yl.move rfl rfl
      refine' TL.y rfl rfl rfl ?hy9 ?_
      case hy9 => exact Yl.move rfl rfl
      refine' TL.y rfl rfl rfl ?hy10 ?_
      case hy10 => first | exact Yl.ixn rfl rfl rfl Try.underlying22 (by kernel_rfl) (by omega) | exact Yl.ixz rfl rfl rfl Try.underlying22 (by kernel_rfl) (by omega) (by omega) | exact Yl.ixcn rfl rfl rfl Try.underlying22 (by kernel_rfl) (by omega) | exact Yl.ixcz rfl rfl rfl Try.underlying22 (by kernel_rfl) (by omega) (by omega)
      refine' TL.y rfl rfl rfl ?hy11 ?_
      case hy11 => first | exact Yl.load rfl rfl (by kernel_rfl) (Sl.vw hS rfl (by omega) (fun _ h => h)) | exact Yl.load rfl rfl (by kernel_rfl) (Hp.cell mem0 rfl) | exact Yl.load rfl rfl (by kernel_rfl) (Hp.cell mem1 rfl) | exact Yl.load rfl rfl (by kernel_rfl) (Hp.cell mem2 rfl) | exact Yl.load rfl rfl (by kernel_rfl) (Hp.cell mem3 rfl) | exact Yl.load rfl rfl (by kernel_rfl) (Hp.cell mem4 rfl) | exact Yl.load rfl rfl (by kernel_rfl) (Hp.rowAt mem0 (by omega) rfl) | exact Yl.load rfl rfl (by kernel_rfl) (Hp.rowAt mem1 (by omega) rfl) | exact Yl.load rfl rfl (by kernel_rfl) (Hp.rowAt mem2 (by omega) rfl) | exact Yl.load rfl rfl (by kernel_rfl) (Hp.rowAt mem3 (by omega) rfl) | exact Yl.load rfl rfl (by kernel_rfl) (Hp.rowAt mem4 (by omega) rfl)
      refine' TL.y rfl rfl rfl ?hy12 ?_
      case hy12 => exact Yl.bin rfl rfl rfl (Bin.lss _ _ _ _)
      refine' TL.y rfl rfl rfl ?hy13 ?_
      case hy13 => exact Yl.move rfl rfl
      refine TL.split (i := 17) rfl (fun hs17 => ?_) (fun hs17 => ?_)
      · skip
        (try simp only [decide_eq_true_eq, decide_eq_false_iff_not, beq_iff_eq, beq_eq_false_iff_ne, bne_iff_ne, ne_eq, bne_eq_false_iff_eq, Bool.not_eq_true', Bool.not_eq_false', Int.not_lt, Int.not_le, gt_iff_lt, ge_iff_le] at hs17)
        refine TL.skip rfl rfl rfl ?_
        refine TL.skip rfl rfl rfl ?_
        refine TL.skip rfl rfl rfl ?_
        refine TL.skip rfl rfl rfl ?_
        refine TL.skip rfl rfl rfl ?_
        refine' TL.y rfl rfl rfl ?hy14 ?_
        case hy14 => exact Yl.pickT rfl rfl rfl
        refine TL.nil ?_
        refine TE.next ?_
        refine TC.yes rfl rfl ?_
        refine TC.seq ?_
        refine TC.region ?_
        refine' TL.y rfl rfl rfl ?hy15 ?_
        case hy15 => exact Yl.assign rfl rfl
        refine TL.nil ?_
        refine TE.next ?_
        refine TC.ret ?_
        refine TE.inRet ?_
        refine TE.thenRet ?_
        refine TE.thenRet ?_
        refine TE.inRet ?_
        refine TE.thenRet ?_
        refine TE.ret1 rfl rfl ?_
        exact fun w h => ⟨by rw [decide_eq_false (fun h : Ok n m f => by have := h.w0 i (by omega); have := h.w1 i (by omega); omega)], h.below⟩
      · skip
        (try simp only [decide_eq_true_eq, decide_eq_false_iff_not, beq_iff_eq, beq_eq_false_iff_ne, bne_iff_ne, ne_eq, bne_eq_false_iff_eq, Bool.not_eq_true', Bool.not_eq_false', Int.not_lt, Int.not_le, gt_iff_lt, ge_iff_le] at hs17)
        refine' TL.y rfl rfl rfl ?hy16 ?_
        case hy16 => exact Yl.move rfl rfl
        refine' TL.y rfl rfl rfl ?hy17 ?_
        case hy17 => exact Yl.move rfl rfl
        refine' TL.y rfl rfl rfl ?hy18 ?_
        case hy18 => first | exact Yl.ixn rfl rfl rfl Try.underlying22 (by kernel_rfl) (by omega) | exact Yl.ixz rfl rfl rfl Try.underlying22 (by kernel_rfl) (by omega) (by omega) | exact Yl.ixcn rfl rfl rfl Try.underlying22 (by kernel_rfl) (by omega) | exact Yl.ixcz rfl rfl rfl Try.underlying22 (by kernel_rfl) (by omega) (by omega)
        refine' TL.y rfl rfl rfl ?hy19 ?_
        case hy19 => first | exact Yl.load rfl rfl (by kernel_rfl) (Sl.vw hS rfl (by omega) (fun _ h => h)) | exact Yl.load rfl rfl (by kernel_rfl) (Hp.cell mem0 rfl) | exact Yl.load rfl rfl (by kernel_rfl) (Hp.cell mem1 rfl) | exact Yl.load rfl rfl (by kernel_rfl) (Hp.cell mem2 rfl) | exact Yl.load rfl rfl (by kernel_rfl) (Hp.cell mem3 rfl) | exact Yl.load rfl rfl (by kernel_rfl) (Hp.cell mem4 rfl) | exact Yl.load rfl rfl (by kernel_rfl) (Hp.rowAt mem0 (by omega) rfl) | exact Yl.load rfl rfl (by kernel_rfl) (Hp.rowAt mem1 (by omega) rfl) | exact Yl.load rfl rfl (by kernel_rfl) (Hp.rowAt mem2 (by omega) rfl) | exact Yl.load rfl rfl (by kernel_rfl) (Hp.rowAt mem3 (by omega) rfl) | exact Yl.load rfl rfl (by kernel_rfl) (Hp.rowAt mem4 (by omega) rfl)
        refine' TL.y rfl rfl rfl ?hy20 ?_
        case hy20 => exact Yl.bin rfl rfl rfl (Bin.gtr _ _ _ _)
        refine' TL.y rfl rfl rfl ?hy21 ?_
        case hy21 => exact Yl.pickF rfl rfl rfl
        refine TL.nil ?_
        refine TE.next ?_
        refine TC.cond rfl (fun hs23 => ?_) (fun hs23 => ?_)
        · skip
          (try simp only [decide_eq_true_eq, decide_eq_false_iff_not, beq_iff_eq, beq_eq_false_iff_ne, bne_iff_ne, ne_eq, bne_eq_false_iff_eq, Bool.not_eq_true', Bool.not_eq_false', Int.not_lt, Int.not_le, gt_iff_lt, ge_iff_le] at hs23)
          refine TC.seq ?_
          refine TC.region ?_
          refine' TL.y rfl rfl rfl ?hy22 ?_
          case hy22 => exact Yl.assign rfl rfl
          refine TL.nil ?_
          refine TE.next ?_
          refine TC.ret ?_
          refine TE.inRet ?_
          refine TE.thenRet ?_
          refine TE.thenRet ?_
          refine TE.inRet ?_
          refine TE.thenRet ?_
          refine TE.ret1 rfl rfl ?_
          exact fun w h => ⟨by rw [decide_eq_false (fun h : Ok n m f => by have := h.w0 i (by omega); have := h.w1 i (by omega); omega)], h.below⟩
        · skip
          (try simp only [decide_eq_true_eq, decide_eq_false_iff_not, beq_iff_eq, beq_eq_false_iff_ne, bne_iff_ne, ne_eq, bne_eq_false_iff_eq, Bool.not_eq_true', Bool.not_eq_false', Int.not_lt, Int.not_le, gt_iff_lt, ge_iff_le] at hs23)
          refine TC.skip ?_
          refine TE.inNormal ?_
          refine TE.next ?_
          refine TC.region ?_
          refine' TL.y rfl rfl rfl ?hy23 ?_
          case hy23 => exact Yl.move rfl rfl
          refine' TL.y rfl rfl rfl ?hy24 ?_
          case hy24 => first | (refine Yl.val (Yl.bin rfl rfl rfl (Bin.add _ _ _ _)) (congrArg (Value.int .i64) (i64in ?_ ?_)) <;> omega) | exact Yl.bin rfl rfl rfl (Bin.add _ _ _ _)
          refine' TL.y rfl rfl rfl ?hy25 ?_
          case hy25 => exact Yl.assign rfl rfl
          refine TL.nil ?_
          refine TE.round (i + 1) ?hF26 ?hlt26 ?hs26 ?hm26
          case hF26 => exact ⟨by omega, fun j hj => by
            by_cases e : j = i
            · subst e; omega
            · exact hF j (by omega)⟩
          case hlt26 => omega
          case hs26 => exact ⟨rfl, rfl, rfl, trivial⟩
          case hm26 => exact fun _ h => h
    · skip
      (try simp only [decide_eq_true_eq, decide_eq_false_iff_not, beq_iff_eq, beq_eq_false_iff_ne, bne_iff_ne, ne_eq, bne_eq_false_iff_eq, Bool.not_eq_true', Bool.not_eq_false', Int.not_lt, Int.not_le, gt_iff_lt, ge_iff_le] at hs9)
      refine TC.exit ?_
      refine TE.thenExit ?_
      refine TE.thenExit ?_
      refine TE.inHere ?_
      refine TE.next ?_
      refine TC.seq ?_
      refine TC.region ?_
      refine' TL.y rfl rfl rfl ?hy27 ?_
      case hy27 => exact Yl.move rfl rfl
      refine' TL.y rfl rfl rfl ?hy28 ?_
      case hy28 => exact Yl.bin rfl rfl rfl (Bin.geq _ _ _ _)
      refine' TL.y rfl rfl rfl ?hy29 ?_
      case hy29 => exact Yl.move rfl rfl
      refine TL.split (i := 26) rfl (fun hs26 => ?_) (fun hs26 => ?_)
      · skip
        (try simp only [decide_eq_true_eq, decide_eq_false_iff_not, beq_iff_eq, beq_eq_false_iff_ne, bne_iff_ne, ne_eq, bne_eq_false_iff_eq, Bool.not_eq_true', Bool.not_eq_false', Int.not_lt, Int.not_le, gt_iff_lt, ge_iff_le] at hs26)
        refine' TL.y rfl rfl rfl ?hy30 ?_
        case hy30 => exact Yl.move rfl rfl
        refine' TL.y rfl rfl rfl ?hy31 ?_
        case hy31 => exact Yl.bin rfl rfl rfl (Bin.leq _ _ _ _)
        refine' TL.y rfl rfl rfl ?hy32 ?_
        case hy32 => exact Yl.pickT rfl rfl rfl
        refine' TL.y rfl rfl rfl ?hy33 ?_
        case hy33 => exact Yl.move rfl rfl
        refine TL.split (i := 30) rfl (fun hs30 => ?_) (fun hs30 => ?_)
        · skip
          (try simp only [decide_eq_true_eq, decide_eq_false_iff_not, beq_iff_eq, beq_eq_false_iff_ne, bne_iff_ne, ne_eq, bne_eq_false_iff_eq, Bool.not_eq_true', Bool.not_eq_false', Int.not_lt, Int.not_le, gt_iff_lt, ge_iff_le] at hs30)
          refine' TL.y rfl rfl rfl ?hy34 ?_
          case hy34 => exact Yl.move rfl rfl
          refine' TL.y rfl rfl rfl ?hy35 ?_
          case hy35 => exact Yl.len rfl rfl Try.underlying22
          refine' TL.y rfl rfl rfl ?hy36 ?_
          case hy36 => exact Yl.bin rfl rfl rfl (Bin.leq _ _ _ _)
          refine' TL.y rfl rfl rfl ?hy37 ?_
          case hy37 => exact Yl.pickT rfl rfl rfl
          refine' TL.y rfl rfl rfl ?hy38 ?_
          case hy38 => exact Yl.assign rfl rfl
          refine TL.nil ?_
          refine TE.next ?_
          refine TC.ret ?_
          refine TE.ret1 rfl rfl ?_
          obtain rfl : i = m := by omega
          exact fun w h => ⟨by congr 2; apply decide_eq_decide.2; exact ⟨fun h => ⟨by omega, by omega, by omega, fun j hj => (hF j hj).1, fun j hj => (hF j hj).2⟩, fun h => by have := h.m1; omega⟩, h.below⟩
        · skip
          (try simp only [decide_eq_true_eq, decide_eq_false_iff_not, beq_iff_eq, beq_eq_false_iff_ne, bne_iff_ne, ne_eq, bne_eq_false_iff_eq, Bool.not_eq_true', Bool.not_eq_false', Int.not_lt, Int.not_le, gt_iff_lt, ge_iff_le] at hs30)
          refine TL.skip rfl rfl rfl ?_
          refine TL.skip rfl rfl rfl ?_
          refine TL.skip rfl rfl rfl ?_
          refine' TL.y rfl rfl rfl ?hy39 ?_
          case hy39 => exact Yl.pickF rfl rfl rfl
          refine' TL.y rfl rfl rfl ?hy40 ?_
          case hy40 => exact Yl.assign rfl rfl
          refine TL.nil ?_
          refine TE.next ?_
          refine TC.ret ?_
          refine TE.ret1 rfl rfl ?_
          exact fun w h => ⟨by rw [decide_eq_false (fun h : Ok n m f => by have := h.n0; have := h.n1; have := h.m1; omega)], h.below⟩
      · skip
        (try simp only [decide_eq_true_eq, decide_eq_false_iff_not, beq_iff_eq, beq_eq_false_iff_ne, bne_iff_ne, ne_eq, bne_eq_false_iff_eq, Bool.not_eq_true', Bool.not_eq_false', Int.not_lt, Int.not_le, gt_iff_lt, ge_iff_le] at hs26)
        refine TL.skip rfl rfl rfl ?_
        refine TL.skip rfl rfl rfl ?_
        refine' TL.y rfl rfl rfl ?hy41 ?_
        case hy41 => exact Yl.pickF rfl rfl rfl
        refine' TL.y rfl rfl rfl ?hy42 ?_
        case hy42 => exact Yl.move rfl rfl
        refine TL.skip rfl rfl rfl ?_
        refine TL.skip rfl rfl rfl ?_
        refine TL.skip rfl rfl rfl ?_
        refine' TL.y rfl rfl rfl ?hy43 ?_
        case hy43 => exact Yl.pickF rfl rfl rfl
        refine' TL.y rfl rfl rfl ?hy44 ?_
        case hy44 => exact Yl.assign rfl rfl
        refine TL.nil ?_
        refine TE.next ?_
        refine TC.ret ?_
        refine TE.ret1 rfl rfl ?_
        exact fun w h => ⟨by rw [decide_eq_false (fun h : Ok n m f => by have := h.n0; have := h.n1; have := h.m1; omega)], h.below⟩
set_option maxRecDepth 100000 in
set_option maxHeartbeats 2000000 in
theorem k_mul64 (W : World) {a b : Int} (h0 : 0 ≤ a) (h1 : a ≤ 1048576) (h2 : 0 ≤ b) (h3 : b ≤ 1099511627776) : Calls Try.prog 19 #[.int .u64 a, .int .u64 b] W fun e w' => e = .returned (.tuple #[.int .u64 0, .int .u64 (a * b)]) ∧ Below W.heap.size W w' := by
  have hab := mul_small h0 h1 h2 h3
  obtain ⟨c, hc⟩ : ∃ c, b % 4294967296 = c := ⟨_, rfl⟩
  obtain ⟨d, hd⟩ : ∃ d, b / 4294967296 = d := ⟨_, rfl⟩
  have hac := mul_lo h0 h1 (show 0 ≤ c by omega) (by omega)
  have had := mul_lo h0 h1 (show 0 ≤ d by omega) (by omega)
  have had2 : a * d ≤ 1048576 * 1024 := by
    have h5 : a * d ≤ 1048576 * d := Int.mul_le_mul_of_nonneg_right h1 (by omega)
    omega
  obtain ⟨t, ht⟩ : ∃ t, a * c / 4294967296 = t := ⟨_, rfl⟩
  have hM : Hp W (fun _ => False) [] W := Hp.start
  refine TC.enter (n := 51) Try.func19 rfl rfl rfl hM ?_
  refine TC.seq ?_
  refine TC.region ?_
  refine' TL.y rfl rfl rfl ?hy1 ?_
  case hy1 => exact Yl.assign rfl rfl
  refine' TL.y rfl rfl rfl ?hy2 ?_
  case hy2 => exact Yl.assign rfl rfl
  refine TL.nil ?_
  refine TE.next ?_
  refine TC.seq ?_
  refine TC.region ?_
  refine' TL.y rfl rfl rfl ?hy3 ?_
  case hy3 => exact Yl.move rfl rfl
  refine' TL.y rfl rfl rfl ?hy4 ?_
  case hy4 => exact Yl.val (Yl.bin rfl rfl rfl (Bin.and _ _ _ _)) (congrArg (Value.int .u64) (show Go.bits .and .u64 a 4294967295 = a from (and32 h0 (by omega)).trans (by omega)))
  refine' TL.y rfl rfl rfl ?hy5 ?_
  case hy5 => exact Yl.assign rfl rfl
  refine TL.nil ?_
  refine TE.next ?_
  refine TC.seq ?_
  refine TC.region ?_
  refine' TL.y rfl rfl rfl ?hy6 ?_
  case hy6 => exact Yl.move rfl rfl
  refine' TL.y rfl rfl rfl ?hy7 ?_
  case hy7 => exact Yl.val (Yl.bin rfl rfl rfl (Bin.shr _ _ _ _ _ (by omega))) (congrArg (Value.int .u64) (show a / 2 ^ min (32 : Int).toNat IntKind.u64.bits = 0 from by rw [show min (32 : Int).toNat IntKind.u64.bits = 32 from by decide]; omega))
  refine' TL.y rfl rfl rfl ?hy8 ?_
  case hy8 => exact Yl.assign rfl rfl
  refine TL.nil ?_
  refine TE.next ?_
  refine TC.seq ?_
  refine TC.region ?_
  refine' TL.y rfl rfl rfl ?hy9 ?_
  case hy9 => exact Yl.move rfl rfl
  refine' TL.y rfl rfl rfl ?hy10 ?_
  case hy10 => exact Yl.val (Yl.bin rfl rfl rfl (Bin.and _ _ _ _)) (congrArg (Value.int .u64) (show Go.bits .and .u64 b 4294967295 = c from (and32 h2 (by omega)).trans hc))
  refine' TL.y rfl rfl rfl ?hy11 ?_
  case hy11 => exact Yl.assign rfl rfl
  refine TL.nil ?_
  refine TE.next ?_
  refine TC.seq ?_
  refine TC.region ?_
  refine' TL.y rfl rfl rfl ?hy12 ?_
  case hy12 => exact Yl.move rfl rfl
  refine' TL.y rfl rfl rfl ?hy13 ?_
  case hy13 => exact Yl.val (Yl.bin rfl rfl rfl (Bin.shr _ _ _ _ _ (by omega))) (congrArg (Value.int .u64) (show b / 2 ^ min (32 : Int).toNat IntKind.u64.bits = d from by rw [show min (32 : Int).toNat IntKind.u64.bits = 32 from by decide]; exact hd))
  refine' TL.y rfl rfl rfl ?hy14 ?_
  case hy14 => exact Yl.assign rfl rfl
  refine TL.nil ?_
  refine TE.next ?_
  refine TC.seq ?_
  refine TC.region ?_
  refine' TL.y rfl rfl rfl ?hy15 ?_
  case hy15 => exact Yl.move rfl rfl
  refine' TL.y rfl rfl rfl ?hy16 ?_
  case hy16 => exact Yl.move rfl rfl
  refine' TL.y rfl rfl rfl ?hy17 ?_
  case hy17 => first | (refine Yl.val (Yl.bin rfl rfl rfl (Bin.mul _ _ _ _)) (congrArg (Value.int .u64) (u64in ?_ ?_)) <;> omega) | exact Yl.bin rfl rfl rfl (Bin.mul _ _ _ _)
  refine' TL.y rfl rfl rfl ?hy18 ?_
  case hy18 => exact Yl.assign rfl rfl
  refine TL.nil ?_
  refine TE.next ?_
  refine TC.seq ?_
  refine TC.region ?_
  refine' TL.y rfl rfl rfl ?hy19 ?_
  case hy19 => exact Yl.move rfl rfl
  refine' TL.y rfl rfl rfl ?hy20 ?_
  case hy20 => exact Yl.move rfl rfl
  refine' TL.y rfl rfl rfl ?hy21 ?_
  case hy21 => exact Yl.val (Yl.bin rfl rfl rfl (Bin.mul _ _ _ _)) (congrArg (Value.int .u64) (show IntKind.u64.wrap (0 * c) = 0 from by rw [Int.zero_mul]; rfl))
  refine' TL.y rfl rfl rfl ?hy22 ?_
  case hy22 => exact Yl.move rfl rfl
  refine' TL.y rfl rfl rfl ?hy23 ?_
  case hy23 => exact Yl.val (Yl.bin rfl rfl rfl (Bin.shr _ _ _ _ _ (by omega))) (congrArg (Value.int .u64) (show a * c / 2 ^ min (32 : Int).toNat IntKind.u64.bits = t from by rw [show min (32 : Int).toNat IntKind.u64.bits = 32 from by decide]; exact ht))
  refine' TL.y rfl rfl rfl ?hy24 ?_
  case hy24 => exact Yl.val (Yl.bin rfl rfl rfl (Bin.add _ _ _ _)) (congrArg (Value.int .u64) (show IntKind.u64.wrap (0 + t) = t from by rw [u64m]; omega))
  refine' TL.y rfl rfl rfl ?hy25 ?_
  case hy25 => exact Yl.assign rfl rfl
  refine TL.nil ?_
  refine TE.next ?_
  refine TC.seq ?_
  refine TC.region ?_
  refine' TL.y rfl rfl rfl ?hy26 ?_
  case hy26 => exact Yl.move rfl rfl
  refine' TL.y rfl rfl rfl ?hy27 ?_
  case hy27 => exact Yl.val (Yl.bin rfl rfl rfl (Bin.and _ _ _ _)) (congrArg (Value.int .u64) (show Go.bits .and .u64 t 4294967295 = t from (and32 (by omega) (by omega)).trans (by omega)))
  refine' TL.y rfl rfl rfl ?hy28 ?_
  case hy28 => exact Yl.assign rfl rfl
  refine TL.nil ?_
  refine TE.next ?_
  refine TC.seq ?_
  refine TC.region ?_
  refine' TL.y rfl rfl rfl ?hy29 ?_
  case hy29 => exact Yl.move rfl rfl
  refine' TL.y rfl rfl rfl ?hy30 ?_
  case hy30 => exact Yl.val (Yl.bin rfl rfl rfl (Bin.shr _ _ _ _ _ (by omega))) (congrArg (Value.int .u64) (show t / 2 ^ min (32 : Int).toNat IntKind.u64.bits = 0 from by rw [show min (32 : Int).toNat IntKind.u64.bits = 32 from by decide]; omega))
  refine' TL.y rfl rfl rfl ?hy31 ?_
  case hy31 => exact Yl.assign rfl rfl
  refine TL.nil ?_
  refine TE.next ?_
  refine TC.seq ?_
  refine TC.region ?_
  refine' TL.y rfl rfl rfl ?hy32 ?_
  case hy32 => exact Yl.move rfl rfl
  refine' TL.y rfl rfl rfl ?hy33 ?_
  case hy33 => exact Yl.move rfl rfl
  refine' TL.y rfl rfl rfl ?hy34 ?_
  case hy34 => exact Yl.move rfl rfl
  refine' TL.y rfl rfl rfl ?hy35 ?_
  case hy35 => first | (refine Yl.val (Yl.bin rfl rfl rfl (Bin.mul _ _ _ _)) (congrArg (Value.int .u64) (u64in ?_ ?_)) <;> omega) | exact Yl.bin rfl rfl rfl (Bin.mul _ _ _ _)
  refine' TL.y rfl rfl rfl ?hy36 ?_
  case hy36 => first | (refine Yl.val (Yl.bin rfl rfl rfl (Bin.add _ _ _ _)) (congrArg (Value.int .u64) (u64in ?_ ?_)) <;> omega) | exact Yl.bin rfl rfl rfl (Bin.add _ _ _ _)
  refine' TL.y rfl rfl rfl ?hy37 ?_
  case hy37 => exact Yl.assign rfl rfl
  refine TL.nil ?_
  refine TE.next ?_
  refine TC.seq ?_
  refine TC.region ?_
  refine' TL.y rfl rfl rfl ?hy38 ?_
  case hy38 => exact Yl.move rfl rfl
  refine' TL.y rfl rfl rfl ?hy39 ?_
  case hy39 => exact Yl.move rfl rfl
  refine' TL.y rfl rfl rfl ?hy40 ?_
  case hy40 => exact Yl.val (Yl.bin rfl rfl rfl (Bin.mul _ _ _ _)) (congrArg (Value.int .u64) (show IntKind.u64.wrap (0 * d) = 0 from by rw [Int.zero_mul]; rfl))
  refine' TL.y rfl rfl rfl ?hy41 ?_
  case hy41 => exact Yl.move rfl rfl
  refine' TL.y rfl rfl rfl ?hy42 ?_
  case hy42 => exact Yl.val (Yl.bin rfl rfl rfl (Bin.add _ _ _ _)) (congrArg (Value.int .u64) (show IntKind.u64.wrap (0 + 0) = 0 from rfl))
  refine' TL.y rfl rfl rfl ?hy43 ?_
  case hy43 => exact Yl.move rfl rfl
  refine' TL.y rfl rfl rfl ?hy44 ?_
  case hy44 => exact Yl.val (Yl.bin rfl rfl rfl (Bin.shr _ _ _ _ _ (by omega))) (congrArg (Value.int .u64) (show (t + a * d) / 2 ^ min (32 : Int).toNat IntKind.u64.bits = 0 from by rw [show min (32 : Int).toNat IntKind.u64.bits = 32 from by decide]; omega))
  refine' TL.y rfl rfl rfl ?hy45 ?_
  case hy45 => exact Yl.val (Yl.bin rfl rfl rfl (Bin.add _ _ _ _)) (congrArg (Value.int .u64) (show IntKind.u64.wrap (0 + 0) = 0 from rfl))
  refine' TL.y rfl rfl rfl ?hy46 ?_
  case hy46 => exact Yl.assign rfl rfl
  refine TL.nil ?_
  refine TE.next ?_
  refine TC.seq ?_
  refine TC.region ?_
  refine' TL.y rfl rfl rfl ?hy47 ?_
  case hy47 => exact Yl.move rfl rfl
  refine' TL.y rfl rfl rfl ?hy48 ?_
  case hy48 => exact Yl.move rfl rfl
  refine' TL.y rfl rfl rfl ?hy49 ?_
  case hy49 => first | (refine Yl.val (Yl.bin rfl rfl rfl (Bin.mul _ _ _ _)) (congrArg (Value.int .u64) (u64in ?_ ?_)) <;> omega) | exact Yl.bin rfl rfl rfl (Bin.mul _ _ _ _)
  refine' TL.y rfl rfl rfl ?hy50 ?_
  case hy50 => exact Yl.assign rfl rfl
  refine TL.nil ?_
  refine TE.next ?_
  refine TC.ret ?_
  refine TE.ret2 rfl rfl rfl ?_
  exact fun w h => ⟨rfl, h.below⟩
set_option maxRecDepth 100000 in
set_option maxHeartbeats 2000000 in
theorem k_div64 (W : World) {x y : Int} (h0 : 0 ≤ x) (h1 : x < 18446744073709551616) (hy : 0 < y) : Calls Try.prog 20 #[.int .u64 0, .int .u64 x, .int .u64 y] W fun e w' => e = .returned (.tuple #[.int .u64 (x / y), .int .u64 (x % y)]) ∧ Below W.heap.size W w' := by
  have hq0 : 0 ≤ x / y := Int.ediv_nonneg h0 (by omega)
  have hq1 : x / y ≤ x := Int.ediv_le_self _ h0
  have hM : Hp W (fun _ => False) [] W := Hp.start
  refine TC.enter (n := 135) Try.func20 rfl rfl rfl hM ?_
  refine TC.seq ?_
  refine TC.region ?_
  refine' TL.y rfl rfl rfl ?hy1 ?_
  case hy1 => exact Yl.assign rfl rfl
  refine' TL.y rfl rfl rfl ?hy2 ?_
  case hy2 => exact Yl.assign rfl rfl
  refine TL.nil ?_
  refine TE.next ?_
  refine TC.seq ?_
  refine TC.seq ?_
  refine TC.region ?_
  refine' TL.y rfl rfl rfl ?hy3 ?_
  case hy3 => exact Yl.move rfl rfl
  refine' TL.y rfl rfl rfl ?hy4 ?_
  case hy4 => exact Yl.bin rfl rfl rfl (Bin.eql _ _ _ _)
  refine TL.nil ?_
  refine TE.next ?_
  refine TC.no rfl (by simp; omega) ?_
  refine TC.skip ?_
  refine TE.next ?_
  refine TC.seq ?_
  refine TC.seq ?_
  refine TC.region ?_
  refine' TL.y rfl rfl rfl ?hy5 ?_
  case hy5 => exact Yl.move rfl rfl
  refine' TL.y rfl rfl rfl ?hy6 ?_
  case hy6 => exact Yl.move rfl rfl
  refine' TL.y rfl rfl rfl ?hy7 ?_
  case hy7 => exact Yl.bin rfl rfl rfl (Bin.leq _ _ _ _)
  refine TL.nil ?_
  refine TE.next ?_
  refine TC.no rfl (by simp; omega) ?_
  refine TC.skip ?_
  refine TE.next ?_
  refine TC.seq ?_
  refine TC.seq ?_
  refine TC.region ?_
  refine' TL.y rfl rfl rfl ?hy8 ?_
  case hy8 => exact Yl.move rfl rfl
  refine' TL.y rfl rfl rfl ?hy9 ?_
  case hy9 => exact Yl.bin rfl rfl rfl (Bin.eql _ _ _ _)
  refine TL.nil ?_
  refine TE.next ?_
  refine TC.yes rfl (by rfl) ?_
  refine TC.seq ?_
  refine TC.draw (k := 8) _ [] #[false, false, false, false, false, false, false, false] (by kernel_rfl) rfl rfl (fun _ h => h.drew) (fun _ h => h) ?_
  refine' TA.y (i := 0) #[true, false, false, false, false, false, false, false] rfl rfl rfl (by kernel_rfl) (fun _ _ _ h => h) (fun _ h => by exact Hp.sub h (by repeat (first | exact List.Sublist.refl _ | apply List.Sublist.cons))) rfl ?hy10 ?_
  case hy10 => exact Yl.move rfl rfl
  refine' TA.y (i := 1) #[true, true, false, false, false, false, false, false] rfl rfl rfl (by kernel_rfl) (fun _ _ _ h => h) (fun _ h => by exact Hp.sub h (by repeat (first | exact List.Sublist.refl _ | apply List.Sublist.cons))) rfl ?hy11 ?_
  case hy11 => exact Yl.move rfl rfl
  refine' TA.y (i := 2) #[true, true, true, false, false, false, false, false] rfl rfl rfl (by kernel_rfl) (fun _ _ _ h => h) (fun _ h => by exact Hp.sub h (by repeat (first | exact List.Sublist.refl _ | apply List.Sublist.cons))) rfl ?hy12 ?_
  case hy12 => exact Yl.val (Yl.bin rfl rfl rfl (Bin.quo _ _ _ _ (by omega))) (congrArg (Value.int .u64) (show IntKind.u64.wrap (x.tdiv y) = x / y from by rw [Int.tdiv_eq_ediv_of_nonneg h0, u64in hq0 (by omega)]))
  refine' TA.y (i := 3) #[true, true, true, true, false, false, false, false] rfl rfl rfl (by kernel_rfl) (fun _ _ _ h => h) (fun _ h => by exact Hp.sub h (by repeat (first | exact List.Sublist.refl _ | apply List.Sublist.cons))) rfl ?hy13 ?_
  case hy13 => exact Yl.move rfl rfl
  refine' TA.y (i := 4) #[true, true, true, true, true, false, false, false] rfl rfl rfl (by kernel_rfl) (fun _ _ _ h => h) (fun _ h => by exact Hp.sub h (by repeat (first | exact List.Sublist.refl _ | apply List.Sublist.cons))) rfl ?hy14 ?_
  case hy14 => exact Yl.move rfl rfl
  refine' TA.y (i := 5) #[true, true, true, true, true, true, false, false] rfl rfl rfl (by kernel_rfl) (fun _ _ _ h => h) (fun _ h => by exact Hp.sub h (by repeat (first | exact List.Sublist.refl _ | apply List.Sublist.cons))) rfl ?hy15 ?_
  case hy15 => exact Yl.val (Yl.bin rfl rfl rfl (Bin.rem _ _ _ _ (by omega))) (congrArg (Value.int .u64) (show x.tmod y = x % y from Int.tmod_eq_emod_of_nonneg h0))
  refine' TA.y (i := 6) #[true, true, true, true, true, true, true, false] rfl rfl rfl (by kernel_rfl) (fun _ _ _ h => h) (fun _ h => by exact Hp.sub h (by repeat (first | exact List.Sublist.refl _ | apply List.Sublist.cons))) rfl ?hy16 ?_
  case hy16 => exact Yl.assign rfl rfl
  refine' TA.y (i := 7) #[true, true, true, true, true, true, true, true] rfl rfl rfl (by kernel_rfl) (fun _ _ _ h => h) (fun _ h => by exact Hp.sub h (by repeat (first | exact List.Sublist.refl _ | apply List.Sublist.cons))) rfl ?hy17 ?_
  case hy17 => exact Yl.assign rfl rfl
  refine TA.done (by kernel_rfl) ?_
  refine TE.next ?_
  refine TC.ret ?_
  refine TE.thenRet ?_
  refine TE.ret2 rfl rfl rfl ?_
  exact fun w h => ⟨rfl, h.below⟩
end Go.Proofs.Ythjllhaebanplaa.Pk
