/- Rows; the groups as the document has them. -/
import Derived.Test.YtipdpmmjmlimhaaPrE
import Derived.Test.YtipdpmmjmlimhaaProg
import Derived.RowKit3
namespace Go.Proofs.Ytipdpmmjmlimhaa.Pk
open Go Go.RowKit Go.Proofs.Ytipdpmmjmlimhaa.HL Go.Proofs.Ytipdpmmjmlimhaa.Ev Go.Proofs.YtipdpmmjmlimhaaW.PrintWords Go.Proofs.PrP Go.Proofs.DvP
set_option linter.unusedVariables false
set_option linter.unusedSimpArgs false
attribute [local irreducible] upR nU Vw blV sumC
set_option maxRecDepth 100000 in
set_option maxHeartbeats 2000000 in
theorem k_row (W : World) {m m2 : Nat} {u v : Nat → Int} {A B : Option Addr} {cp cq : Nat} (hS : Sl W A (Vw m u)) (hS2 : Sl W B (Vw m2 v)) (hm : m ≤ 9223372036854775807) : Calls Try.prog 10 #[.slice A m cp, .slice B m2 cq] W fun e w' => e = .returned (.bool (decide (m = m2 ∧ ∀ j, j < m → u j = v j))) ∧ Below W.heap.size W w' := by
  have hM : Hp W (fun _ => False) [] W := Hp.start
  refine TC.enter (n := 26) Try.func10 rfl rfl rfl hM ?_
  refine TC.seq ?_
  refine TC.region ?_
  refine' TL.y rfl rfl rfl ?hy1 ?_
  case hy1 => exact Yl.assign rfl rfl
  refine TL.nil ?_
  refine TE.next ?_
  refine TC.seq ?_
  refine TC.seq ?_
  refine TC.region ?_
  refine' TL.y rfl rfl rfl ?hy2 ?_
  case hy2 => exact Yl.move rfl rfl
  refine' TL.y rfl rfl rfl ?hy3 ?_
  case hy3 => exact Yl.len rfl rfl Try.underlying25
  refine' TL.y rfl rfl rfl ?hy4 ?_
  case hy4 => exact Yl.move rfl rfl
  refine' TL.y rfl rfl rfl ?hy5 ?_
  case hy5 => exact Yl.len rfl rfl Try.underlying25
  refine' TL.y rfl rfl rfl ?hy6 ?_
  case hy6 => exact Yl.bin rfl rfl rfl (Bin.neq _ _ _ _)
  refine TL.nil ?_
  refine TE.next ?_
  refine TC.cond rfl (fun hs10 => ?_) (fun hs10 => ?_)
  · skip
    (try simp only [decide_eq_true_eq, decide_eq_false_iff_not, beq_iff_eq, beq_eq_false_iff_ne, bne_iff_ne, ne_eq, bne_eq_false_iff_eq, Bool.not_eq_true', Bool.not_eq_false', Int.not_lt, Int.not_le, gt_iff_lt, ge_iff_le] at hs10)
    refine TC.seq ?_
    refine TC.region ?_
    refine' TL.y rfl rfl rfl ?hy7 ?_
    case hy7 => exact Yl.assign rfl rfl
    refine TL.nil ?_
    refine TE.next ?_
    refine TC.ret ?_
    refine TE.thenRet ?_
    refine TE.ret1 rfl rfl ?_
    exact fun w h => ⟨by rw [decide_eq_false (fun e => by omega)], h.below⟩
  · skip
    (try simp only [decide_eq_true_eq, decide_eq_false_iff_not, beq_iff_eq, beq_eq_false_iff_ne, bne_iff_ne, ne_eq, bne_eq_false_iff_eq, Bool.not_eq_true', Bool.not_eq_false', Int.not_lt, Int.not_le, gt_iff_lt, ge_iff_le] at hs10)
    obtain rfl : m = m2 := by omega
    refine TC.skip ?_
    refine TE.next ?_
    refine TC.seq ?_
    refine TC.seq ?_
    refine TC.region ?_
    refine' TL.y rfl rfl rfl ?hy8 ?_
    case hy8 => exact Yl.assign rfl rfl
    refine TL.nil ?_
    refine TE.next ?_
    refine TC.block ?_
    refine TC.loop (σ := Nat) (fun i => [(0, .slice A m cp), (1, .slice B m cq), (5, .int .i64 (i : Int))]) (fun i => Hp W (fun _ => False) []) (fun i => i ≤ m ∧ ∀ j, j < i → u j = v j) (fun i => m - i) 0 ?hF9 ?hs9 ?hm9 ?round9
    case hF9 => exact ⟨Nat.zero_le _, fun j hj => by omega⟩
    case hs9 => exact ⟨rfl, rfl, rfl, trivial⟩
    case hm9 => exact fun _ h => h
    case round9 =>
      rintro i ⟨hi, hF⟩
      refine TC.seq ?_
      refine TC.seq ?_
      refine TC.region ?_
      refine' TL.y rfl rfl rfl ?hy10 ?_
      case hy10 => exact Yl.move rfl rfl
      refine' TL.y rfl rfl rfl ?hy11 ?_
      case hy11 => exact Yl.move rfl rfl
      refine' TL.y rfl rfl rfl ?hy12 ?_
      case hy12 => exact Yl.len rfl rfl Try.underlying25
      refine' TL.y rfl rfl rfl ?hy13 ?_
      case hy13 => exact Yl.bin rfl rfl rfl (Bin.lss _ _ _ _)
      refine TL.nil ?_
      refine TE.next ?_
      refine TC.cond rfl (fun hs14 => ?_) (fun hs14 => ?_)
      · skip
        (try simp only [decide_eq_true_eq, decide_eq_false_iff_not, beq_iff_eq, beq_eq_false_iff_ne, bne_iff_ne, ne_eq, bne_eq_false_iff_eq, Bool.not_eq_true', Bool.not_eq_false', Int.not_lt, Int.not_le, gt_iff_lt, ge_iff_le] at hs14)
        obtain ⟨b, o, rfl⟩ := Sl.some2 hS (by rw [Vw_length]; omega)
        obtain ⟨b2, o2, rfl⟩ := Sl.some2 hS2 (by rw [Vw_length]; omega)
        refine TC.skip ?_
        refine TE.next ?_
        refine TC.seq ?_
        refine TC.block ?_
        refine TC.seq ?_
        refine TC.draw (k := 9) _ [] #[false, false, false, false, false, false, false, false, false] (by kernel_rfl) rfl rfl (fun _ h => h.drew) (fun _ h => h) ?_
        refine' TA.y (i := 0) #[true, false, false, false, false, false, false, false, false] rfl rfl rfl (by kernel_rfl) (fun _ _ _ h => h) (fun _ h => by exact Hp.sub h (by repeat (first | exact List.Sublist.refl _ | apply List.Sublist.cons))) rfl ?hy14 ?_
        case hy14 => exact Yl.move rfl rfl
        refine' TA.y (i := 1) #[true, true, false, false, false, false, false, false, false] rfl rfl rfl (by kernel_rfl) (fun _ _ _ h => h) (fun _ h => by exact Hp.sub h (by repeat (first | exact List.Sublist.refl _ | apply List.Sublist.cons))) rfl ?hy15 ?_
        case hy15 => exact Yl.move rfl rfl
        refine' TA.y (i := 2) #[true, true, true, false, false, false, false, false, false] rfl rfl rfl (by kernel_rfl) (fun _ _ _ h => h) (fun _ h => by exact Hp.sub h (by repeat (first | exact List.Sublist.refl _ | apply List.Sublist.cons))) rfl ?hy16 ?_
        case hy16 => first | exact Yl.ixn rfl rfl rfl Try.underlying25 (by kernel_rfl) (by omega) | exact Yl.ixz rfl rfl rfl Try.underlying25 (by kernel_rfl) (by omega) (by omega) | exact Yl.ixcn rfl rfl rfl Try.underlying25 (by kernel_rfl) (by omega) | exact Yl.ixcz rfl rfl rfl Try.underlying25 (by kernel_rfl) (by omega) (by omega)
        refine' TA.y (i := 3) #[true, true, true, true, false, false, false, false, false] rfl rfl rfl (by kernel_rfl) (fun _ _ _ h => h) (fun _ h => by exact Hp.sub h (by repeat (first | exact List.Sublist.refl _ | apply List.Sublist.cons))) rfl ?hy17 ?_
        case hy17 => first | exact Yl.load rfl rfl (by kernel_rfl) (Sl.vw hS rfl (by omega) (fun _ h => h)) | exact Yl.load rfl rfl (by kernel_rfl) (Sl.vw hS2 rfl (by omega) (fun _ h => h)) | exact Yl.load rfl rfl (by kernel_rfl) (Hp.cell mem0 rfl) | exact Yl.load rfl rfl (by kernel_rfl) (Hp.cell mem1 rfl) | exact Yl.load rfl rfl (by kernel_rfl) (Hp.cell mem2 rfl) | exact Yl.load rfl rfl (by kernel_rfl) (Hp.cell mem3 rfl) | exact Yl.load rfl rfl (by kernel_rfl) (Hp.cell mem4 rfl) | exact Yl.load rfl rfl (by kernel_rfl) (Hp.rowAt mem0 (by omega) rfl) | exact Yl.load rfl rfl (by kernel_rfl) (Hp.rowAt mem1 (by omega) rfl) | exact Yl.load rfl rfl (by kernel_rfl) (Hp.rowAt mem2 (by omega) rfl) | exact Yl.load rfl rfl (by kernel_rfl) (Hp.rowAt mem3 (by omega) rfl) | exact Yl.load rfl rfl (by kernel_rfl) (Hp.rowAt mem4 (by omega) rfl)
        refine' TA.y (i := 4) #[true, true, true, true, true, false, false, false, false] rfl rfl rfl (by kernel_rfl) (fun _ _ _ h => h) (fun _ h => by exact Hp.sub h (by repeat (first | exact List.Sublist.refl _ | apply List.Sublist.cons))) rfl ?hy18 ?_
        case hy18 => exact Yl.move rfl rfl
        refine' TA.y (i := 5) #[true, true, true, true, true, true, false, false, false] rfl rfl rfl (by kernel_rfl) (fun _ _ _ h => h) (fun _ h => by exact Hp.sub h (by repeat (first | exact List.Sublist.refl _ | apply List.Sublist.cons))) rfl ?hy19 ?_
        case hy19 => exact Yl.move rfl rfl
        refine' TA.y (i := 6) #[true, true, true, true, true, true, true, false, false] rfl rfl rfl (by kernel_rfl) (fun _ _ _ h => h) (fun _ h => by exact Hp.sub h (by repeat (first | exact List.Sublist.refl _ | apply List.Sublist.cons))) rfl ?hy20 ?_
        case hy20 => first | exact Yl.ixn rfl rfl rfl Try.underlying25 (by kernel_rfl) (by omega) | exact Yl.ixz rfl rfl rfl Try.underlying25 (by kernel_rfl) (by omega) (by omega) | exact Yl.ixcn rfl rfl rfl Try.underlying25 (by kernel_rfl) (by omega) | exact Yl.ixcz rfl rfl rfl Try.underlying25 (by kernel_rfl) (by omega) (by omega)
        refine' TA.y (i := 7) #[true, true, true, true, true, true, true, true, false] rfl rfl rfl (by kernel_rfl) (fun _ _ _ h => h) (fun _ h => by exact Hp.sub h (by repeat (first | exact List.Sublist.refl _ | apply List.Sublist.cons))) rfl ?hy21 ?_
        case hy21 => first | exact Yl.load rfl rfl (by kernel_rfl) (Sl.vw hS rfl (by omega) (fun _ h => h)) | exact Yl.load rfl rfl (by kernel_rfl) (Sl.vw hS2 rfl (by omega) (fun _ h => h)) | exact Yl.load rfl rfl (by kernel_rfl) (Hp.cell mem0 rfl) | exact Yl.load rfl rfl (by kernel_rfl) (Hp.cell mem1 rfl) | exact Yl.load rfl rfl (by kernel_rfl) (Hp.cell mem2 rfl) | exact Yl.load rfl rfl (by kernel_rfl) (Hp.cell mem3 rfl) | exact Yl.load rfl rfl (by kernel_rfl) (Hp.cell mem4 rfl) | exact Yl.load rfl rfl (by kernel_rfl) (Hp.rowAt mem0 (by omega) rfl) | exact Yl.load rfl rfl (by kernel_rfl) (Hp.rowAt mem1 (by omega) rfl) | exact Yl.load rfl rfl (by kernel_rfl) (Hp.rowAt mem2 (by omega) rfl) | exact Yl.load rfl rfl (by kernel_rfl) (Hp.rowAt mem3 (by omega) rfl) | exact Yl.load rfl rfl (by kernel_rfl) (Hp.rowAt mem4 (by omega) rfl)
        refine' TA.y (i := 8) #[true, true, true, true, true, true, true, true, true] rfl rfl rfl (by kernel_rfl) (fun _ _ _ h => h) (fun _ h => by exact Hp.sub h (by repeat (first | exact List.Sublist.refl _ | apply List.Sublist.cons))) rfl ?hy22 ?_
        case hy22 => exact Yl.bin rfl rfl rfl (Bin.neq _ _ _ _)
        refine TA.done (by kernel_rfl) ?_
        refine TE.next ?_
        refine TC.cond rfl (fun hs25 => ?_) (fun hs25 => ?_)
        · skip
          (try simp only [decide_eq_true_eq, decide_eq_false_iff_not, beq_iff_eq, beq_eq_false_iff_ne, bne_iff_ne, ne_eq, bne_eq_false_iff_eq, Bool.not_eq_true', Bool.not_eq_false', Int.not_lt, Int.not_le, gt_iff_lt, ge_iff_le] at hs25)
          refine TC.seq ?_
          refine TC.region ?_
          refine' TL.y rfl rfl rfl ?hy23 ?_
          case hy23 => exact Yl.assign rfl rfl
          refine TL.nil ?_
          refine TE.next ?_
          refine TC.ret ?_
          refine TE.inRet ?_
          refine TE.thenRet ?_
          refine TE.thenRet ?_
          refine TE.inRet ?_
          refine TE.thenRet ?_
          refine TE.ret1 rfl rfl ?_
          exact fun w h => ⟨by rw [decide_eq_false (fun e => hs25 (e.2 i (by omega)))], h.below⟩
        · skip
          (try simp only [decide_eq_true_eq, decide_eq_false_iff_not, beq_iff_eq, beq_eq_false_iff_ne, bne_iff_ne, ne_eq, bne_eq_false_iff_eq, Bool.not_eq_true', Bool.not_eq_false', Int.not_lt, Int.not_le, gt_iff_lt, ge_iff_le] at hs25)
          refine TC.skip ?_
          refine TE.inNormal ?_
          refine TE.next ?_
          refine TC.region ?_
          refine' TL.y rfl rfl rfl ?hy24 ?_
          case hy24 => exact Yl.move rfl rfl
          refine' TL.y rfl rfl rfl ?hy25 ?_
          case hy25 => first | (refine Yl.val (Yl.bin rfl rfl rfl (Bin.add _ _ _ _)) (congrArg (Value.int .i64) (i64in ?_ ?_)) <;> omega) | exact Yl.bin rfl rfl rfl (Bin.add _ _ _ _)
          refine' TL.y rfl rfl rfl ?hy26 ?_
          case hy26 => exact Yl.assign rfl rfl
          refine TL.nil ?_
          refine TE.round (i + 1) ?hF27 ?hlt27 ?hs27 ?hm27
          case hF27 => exact ⟨by omega, fun j hj => by
            by_cases e : j = i
            · rw [e]; omega
            · exact hF j (by omega)⟩
          case hlt27 => omega
          case hs27 => exact ⟨rfl, rfl, rfl, trivial⟩
          case hm27 => exact fun _ h => h
      · skip
        (try simp only [decide_eq_true_eq, decide_eq_false_iff_not, beq_iff_eq, beq_eq_false_iff_ne, bne_iff_ne, ne_eq, bne_eq_false_iff_eq, Bool.not_eq_true', Bool.not_eq_false', Int.not_lt, Int.not_le, gt_iff_lt, ge_iff_le] at hs14)
        refine TC.exit ?_
        refine TE.thenExit ?_
        refine TE.thenExit ?_
        refine TE.inHere ?_
        refine TE.next ?_
        refine TC.seq ?_
        refine TC.region ?_
        refine' TL.y rfl rfl rfl ?hy28 ?_
        case hy28 => exact Yl.assign rfl rfl
        refine TL.nil ?_
        refine TE.next ?_
        refine TC.ret ?_
        refine TE.ret1 rfl rfl ?_
        exact fun w h => ⟨by rw [decide_eq_true ⟨rfl, fun j hj => hF j (by omega)⟩], h.below⟩
set_option maxRecDepth 100000 in
set_option maxHeartbeats 2000000 in
theorem k_reff (W : World) {m : Nat} {f : Nat → Nd} {A : Option Addr} {cp : Nat} (hS : Sl W A (Nw m f)) (hm : m ≤ 9223372036854775807) (t : Int) : Calls Try.prog 12 #[.slice A m cp, .int .i64 t] W fun e w' => ∃ v : Value, e = .returned v ∧ (ownR 3 1 v (lenE m f t) (Vw (lenE m f t) (effV m f t))).holds w' ∧ Below W.heap.size W w' ∧ ∀ j, (ownR 3 1 v (lenE m f t) (Vw (lenE m f t) (effV m f t))).foot j → W.heap.size ≤ j := by
  have hM : Hp W (fun _ => False) [] W := Hp.start
  refine TC.enter (n := 113) Try.func12 rfl rfl rfl hM ?_
  refine TC.seq ?_
  refine TC.region ?_
  refine' TL.y rfl rfl rfl ?hy1 ?_
  case hy1 => exact Yl.assign rfl rfl
  refine TL.nil ?_
  refine TE.next ?_
  refine TC.seq ?_
  refine TC.seq ?_
  refine TC.region ?_
  refine' TL.y rfl rfl rfl ?hy2 ?_
  case hy2 => exact Yl.move rfl rfl
  refine' TL.c rfl rfl rfl ?hy3 ?_
  case hy3 => exact Yc.call rfl Try.func15 (by kernel_rfl) rfl rfl (Hp.calls (fun w h => k_rvalid w (hS.below h.below) hm))
  intro _
  refine' TL.y rfl rfl rfl ?hy4 ?_
  case hy4 => exact Yl.not rfl rfl
  refine' TL.y rfl rfl rfl ?hy5 ?_
  case hy5 => exact Yl.move rfl rfl
  refine TL.split (i := 14) rfl (fun hs14 => ?_) (fun hs14 => ?_)
  · skip
    (try simp only [decide_eq_true_eq, decide_eq_false_iff_not, beq_iff_eq, beq_eq_false_iff_ne, bne_iff_ne, ne_eq, bne_eq_false_iff_eq, Bool.not_eq_true', Bool.not_eq_false', Int.not_lt, Int.not_le, gt_iff_lt, ge_iff_le] at hs14)
    refine TL.skip rfl rfl rfl ?_
    refine TL.skip rfl rfl rfl ?_
    refine' TL.y rfl rfl rfl ?hy6 ?_
    case hy6 => exact Yl.pickT rfl rfl rfl
    refine' TL.y rfl rfl rfl ?hy7 ?_
    case hy7 => exact Yl.move rfl rfl
    refine TL.skip rfl rfl rfl ?_
    refine TL.skip rfl rfl rfl ?_
    refine TL.skip rfl rfl rfl ?_
    refine TL.skip rfl rfl rfl ?_
    refine' TL.y rfl rfl rfl ?hy8 ?_
    case hy8 => exact Yl.pickT rfl rfl rfl
    refine TL.nil ?_
    refine TE.next ?_
    refine TC.yes rfl rfl ?_
    refine TC.seq ?_
    refine TC.region ?_
    refine' TL.y rfl rfl rfl ?hy9 ?_
    case hy9 => exact Yl.assign rfl rfl
    refine TL.nil ?_
    refine TE.next ?_
    refine TC.ret ?_
    refine TE.thenRet ?_
    refine TE.ret1 rfl rfl ?_
    exact fun w h => ⟨_, rfl, by rw [show lenE m f t = 0 from if_neg (by rintro ⟨h1, h2, h3⟩; first | omega | simp_all)]; exact (nilVw h).leaveNew⟩
  · skip
    (try simp only [decide_eq_true_eq, decide_eq_false_iff_not, beq_iff_eq, beq_eq_false_iff_ne, bne_iff_ne, ne_eq, bne_eq_false_iff_eq, Bool.not_eq_true', Bool.not_eq_false', Int.not_lt, Int.not_le, gt_iff_lt, ge_iff_le] at hs14)
    refine' TL.y rfl rfl rfl ?hy10 ?_
    case hy10 => exact Yl.move rfl rfl
    refine' TL.y rfl rfl rfl ?hy11 ?_
    case hy11 => exact Yl.bin rfl rfl rfl (Bin.lss _ _ _ _)
    refine' TL.y rfl rfl rfl ?hy12 ?_
    case hy12 => exact Yl.pickF rfl rfl rfl
    refine' TL.y rfl rfl rfl ?hy13 ?_
    case hy13 => exact Yl.move rfl rfl
    refine TL.split (i := 18) rfl (fun hs18 => ?_) (fun hs18 => ?_)
    · skip
      (try simp only [decide_eq_true_eq, decide_eq_false_iff_not, beq_iff_eq, beq_eq_false_iff_ne, bne_iff_ne, ne_eq, bne_eq_false_iff_eq, Bool.not_eq_true', Bool.not_eq_false', Int.not_lt, Int.not_le, gt_iff_lt, ge_iff_le] at hs18)
      refine TL.skip rfl rfl rfl ?_
      refine TL.skip rfl rfl rfl ?_
      refine TL.skip rfl rfl rfl ?_
      refine TL.skip rfl rfl rfl ?_
      refine' TL.y rfl rfl rfl ?hy14 ?_
      case hy14 => exact Yl.pickT rfl rfl rfl
      refine TL.nil ?_
      refine TE.next ?_
      refine TC.yes rfl rfl ?_
      refine TC.seq ?_
      refine TC.region ?_
      refine' TL.y rfl rfl rfl ?hy15 ?_
      case hy15 => exact Yl.assign rfl rfl
      refine TL.nil ?_
      refine TE.next ?_
      refine TC.ret ?_
      refine TE.thenRet ?_
      refine TE.ret1 rfl rfl ?_
      exact fun w h => ⟨_, rfl, by rw [show lenE m f t = 0 from if_neg (by rintro ⟨h1, h2, h3⟩; first | omega | simp_all)]; exact (nilVw h).leaveNew⟩
    · skip
      (try simp only [decide_eq_true_eq, decide_eq_false_iff_not, beq_iff_eq, beq_eq_false_iff_ne, bne_iff_ne, ne_eq, bne_eq_false_iff_eq, Bool.not_eq_true', Bool.not_eq_false', Int.not_lt, Int.not_le, gt_iff_lt, ge_iff_le] at hs18)
      refine' TL.y rfl rfl rfl ?hy16 ?_
      case hy16 => exact Yl.move rfl rfl
      refine' TL.y rfl rfl rfl ?hy17 ?_
      case hy17 => exact Yl.move rfl rfl
      refine' TL.y rfl rfl rfl ?hy18 ?_
      case hy18 => exact Yl.len rfl rfl Try.underlying28
      refine' TL.y rfl rfl rfl ?hy19 ?_
      case hy19 => exact Yl.bin rfl rfl rfl (Bin.geq _ _ _ _)
      refine' TL.y rfl rfl rfl ?hy20 ?_
      case hy20 => exact Yl.pickF rfl rfl rfl
      refine TL.nil ?_
      refine TE.next ?_
      refine TC.cond rfl (fun hs23 => ?_) (fun hs23 => ?_)
      · skip
        (try simp only [decide_eq_true_eq, decide_eq_false_iff_not, beq_iff_eq, beq_eq_false_iff_ne, bne_iff_ne, ne_eq, bne_eq_false_iff_eq, Bool.not_eq_true', Bool.not_eq_false', Int.not_lt, Int.not_le, gt_iff_lt, ge_iff_le] at hs23)
        refine TC.seq ?_
        refine TC.region ?_
        refine' TL.y rfl rfl rfl ?hy21 ?_
        case hy21 => exact Yl.assign rfl rfl
        refine TL.nil ?_
        refine TE.next ?_
        refine TC.ret ?_
        refine TE.thenRet ?_
        refine TE.ret1 rfl rfl ?_
        exact fun w h => ⟨_, rfl, by rw [show lenE m f t = 0 from if_neg (by rintro ⟨h1, h2, h3⟩; first | omega | simp_all)]; exact (nilVw h).leaveNew⟩
      · skip
        (try simp only [decide_eq_true_eq, decide_eq_false_iff_not, beq_iff_eq, beq_eq_false_iff_ne, bne_iff_ne, ne_eq, bne_eq_false_iff_eq, Bool.not_eq_true', Bool.not_eq_false', Int.not_lt, Int.not_le, gt_iff_lt, ge_iff_le] at hs23)
        have hV : Vld m f ∧ 0 ≤ t ∧ t < m := by refine ⟨?_, by omega, by omega⟩; by_cases e : Vld m f; exact e; simp_all
        have hv := hV.1
        have ht0 := hV.2.1
        have ht1 := hV.2.2
        have hm64 := hv.m1
        obtain ⟨b, o, rfl⟩ := Sl.some2 hS (by rw [Nw_length]; omega)
        refine TC.skip ?_
        refine TE.next ?_
        refine TC.seq ?_
        refine TC.region ?_
        refine' TL.y rfl rfl rfl ?hy22 ?_
        case hy22 => exact Yl.move rfl rfl
        refine' TL.y rfl rfl rfl ?hy23 ?_
        case hy23 => exact Yl.len rfl rfl Try.underlying28
        refine' TL.mx rfl rfl rfl ?hy24 ?_
        case hy24 => exact Ym.makeRow (z := .int .i64 0) (by_ := 8) rfl rfl rfl Try.underlying25 (by kernel_rfl) rfl (by omega) (by omega) (by omega)
        intro b26
        simp only [Int.toNat_natCast]
        refine TL.wk (fun w h => madeOwn (maxL hv.m1) h) ?_
        refine' TL.y rfl rfl rfl ?hy25 ?_
        case hy25 => exact Yl.assign rfl rfl
        refine TL.nil ?_
        refine TE.next ?_
        refine TC.seq ?_
        refine TC.seq ?_
        refine TC.region ?_
        refine' TL.y rfl rfl rfl ?hy26 ?_
        case hy26 => exact Yl.assign rfl rfl
        refine TL.nil ?_
        refine TE.next ?_
        refine TC.block ?_
        refine TC.loop (σ := Nat) (fun i => [(0, .slice (some ⟨b, o, none⟩) m cp), (1, .int .i64 t), (5, .slice (some ⟨b26, 0, none⟩) m m), (6, .int .i64 (i : Int))]) (fun i => Hp W (fun _ => False) [ownR 3 1 (.slice (some ⟨b26, 0, none⟩) m m) m (Vw m (fun j => if j < i then effV m f t j else 0))]) (fun i => i ≤ m) (fun i => m - i) 0 ?hF27 ?hs27 ?hm27 ?round27
        case hF27 => exact Nat.zero_le _
        case hs27 => exact ⟨rfl, rfl, rfl, rfl, trivial⟩
        case hm27 => exact fun w h => h.vwc (fun j hj => (if_neg (by omega)).symm)
        case round27 =>
          intro i hi
          refine TC.seq ?_
          refine TC.seq ?_
          refine TC.region ?_
          refine' TL.y rfl rfl rfl ?hy28 ?_
          case hy28 => exact Yl.move rfl rfl
          refine' TL.y rfl rfl rfl ?hy29 ?_
          case hy29 => exact Yl.move rfl rfl
          refine' TL.y rfl rfl rfl ?hy30 ?_
          case hy30 => exact Yl.len rfl rfl Try.underlying28
          refine' TL.y rfl rfl rfl ?hy31 ?_
          case hy31 => exact Yl.bin rfl rfl rfl (Bin.lss _ _ _ _)
          refine TL.nil ?_
          refine TE.next ?_
          refine TC.cond rfl (fun hs30 => ?_) (fun hs30 => ?_)
          · skip
            (try simp only [decide_eq_true_eq, decide_eq_false_iff_not, beq_iff_eq, beq_eq_false_iff_ne, bne_iff_ne, ne_eq, bne_eq_false_iff_eq, Bool.not_eq_true', Bool.not_eq_false', Int.not_lt, Int.not_le, gt_iff_lt, ge_iff_le] at hs30)
            have hob := own_bd hv (j := i) (by omega)
            refine TC.skip ?_
            refine TE.next ?_
            refine TC.seq ?_
            refine TC.block ?_
            refine TC.seq ?_
            refine TC.seq ?_
            refine TC.region ?_
            refine' TL.y rfl rfl rfl ?hy32 ?_
            case hy32 => exact Yl.move rfl rfl
            refine' TL.y rfl rfl rfl ?hy33 ?_
            case hy33 => exact Yl.move rfl rfl
            refine' TL.y rfl rfl rfl ?hy34 ?_
            case hy34 => exact Yl.bin rfl rfl rfl (Bin.eql _ _ _ _)
            refine' TL.y rfl rfl rfl ?hy35 ?_
            case hy35 => exact Yl.move rfl rfl
            refine TL.split (i := 36) rfl (fun hs36 => ?_) (fun hs36 => ?_)
            · skip
              (try simp only [decide_eq_true_eq, decide_eq_false_iff_not, beq_iff_eq, beq_eq_false_iff_ne, bne_iff_ne, ne_eq, bne_eq_false_iff_eq, Bool.not_eq_true', Bool.not_eq_false', Int.not_lt, Int.not_le, gt_iff_lt, ge_iff_le] at hs36)
              have hov : effV m f t i = 0 := effV_no (.inl (by omega))
              refine TL.skip rfl rfl rfl ?_
              refine TL.skip rfl rfl rfl ?_
              refine TL.skip rfl rfl rfl ?_
              refine TL.skip rfl rfl rfl ?_
              refine TL.skip rfl rfl rfl ?_
              refine' TL.y rfl rfl rfl ?hy36 ?_
              case hy36 => exact Yl.pickT rfl rfl rfl
              refine TL.nil ?_
              refine TE.next ?_
              refine TC.yes rfl rfl ?_
              refine TC.exit ?_
              refine TE.thenExit ?_
              refine TE.inHere ?_
              refine TE.next ?_
              refine TC.region ?_
              refine' TL.y rfl rfl rfl ?hy37 ?_
              case hy37 => exact Yl.move rfl rfl
              refine' TL.y rfl rfl rfl ?hy38 ?_
              case hy38 => first | (refine Yl.val (Yl.bin rfl rfl rfl (Bin.add _ _ _ _)) (congrArg (Value.int .i64) (i64in ?_ ?_)) <;> omega) | exact Yl.bin rfl rfl rfl (Bin.add _ _ _ _)
              refine' TL.y rfl rfl rfl ?hy39 ?_
              case hy39 => exact Yl.assign rfl rfl
              refine TL.nil ?_
              refine TE.round (i + 1) ?hF40 ?hlt40 ?hs40 ?hm40
              case hF40 => omega
              case hlt40 => omega
              case hs40 => exact ⟨rfl, rfl, rfl, rfl, trivial⟩
              case hm40 => exact (fun w h => h.vwc (fun j hj => by
                  by_cases e : j = i
                  · rw [if_neg (by omega), if_pos (by omega), e]; exact hov.symm
                  · by_cases e2 : j < i
                    · rw [if_pos e2, if_pos (by omega)]
                    · rw [if_neg e2, if_neg (by omega)]))
            · skip
              (try simp only [decide_eq_true_eq, decide_eq_false_iff_not, beq_iff_eq, beq_eq_false_iff_ne, bne_iff_ne, ne_eq, bne_eq_false_iff_eq, Bool.not_eq_true', Bool.not_eq_false', Int.not_lt, Int.not_le, gt_iff_lt, ge_iff_le] at hs36)
              refine' TL.y rfl rfl rfl ?hy41 ?_
              case hy41 => exact Yl.move rfl rfl
              refine' TL.y rfl rfl rfl ?hy42 ?_
              case hy42 => exact Yl.move rfl rfl
              refine' TL.y rfl rfl rfl ?hy43 ?_
              case hy43 => exact Yl.move rfl rfl
              refine' TL.c rfl rfl rfl ?hy44 ?_
              case hy44 => exact Yc.call rfl Try.func25 (by kernel_rfl) rfl rfl (Hp.calls (fun w h => k_rbelow w (hS.below h.below) hv (by omega) (by omega) ht0))
              intro _
              refine' TL.y rfl rfl rfl ?hy45 ?_
              case hy45 => exact Yl.not rfl rfl
              refine' TL.y rfl rfl rfl ?hy46 ?_
              case hy46 => exact Yl.pickF rfl rfl rfl
              refine TL.nil ?_
              refine TE.next ?_
              refine TC.cond rfl (fun hs42 => ?_) (fun hs42 => ?_)
              · skip
                (try simp only [decide_eq_true_eq, decide_eq_false_iff_not, beq_iff_eq, beq_eq_false_iff_ne, bne_iff_ne, ne_eq, bne_eq_false_iff_eq, Bool.not_eq_true', Bool.not_eq_false', Int.not_lt, Int.not_le, gt_iff_lt, ge_iff_le] at hs42)
                have hov : effV m f t i = 0 := effV_no (.inr (by simpa using hs42))
                refine TC.exit ?_
                refine TE.thenExit ?_
                refine TE.inHere ?_
                refine TE.next ?_
                refine TC.region ?_
                refine' TL.y rfl rfl rfl ?hy47 ?_
                case hy47 => exact Yl.move rfl rfl
                refine' TL.y rfl rfl rfl ?hy48 ?_
                case hy48 => first | (refine Yl.val (Yl.bin rfl rfl rfl (Bin.add _ _ _ _)) (congrArg (Value.int .i64) (i64in ?_ ?_)) <;> omega) | exact Yl.bin rfl rfl rfl (Bin.add _ _ _ _)
                refine' TL.y rfl rfl rfl ?hy49 ?_
                case hy49 => exact Yl.assign rfl rfl
                refine TL.nil ?_
                refine TE.round (i + 1) ?hF50 ?hlt50 ?hs50 ?hm50
                case hF50 => omega
                case hlt50 => omega
                case hs50 => exact ⟨rfl, rfl, rfl, rfl, trivial⟩
                case hm50 => exact (fun w h => h.vwc (fun j hj => by
                    by_cases e : j = i
                    · rw [if_neg (by omega), if_pos (by omega), e]; exact hov.symm
                    · by_cases e2 : j < i
                      · rw [if_pos e2, if_pos (by omega)]
                      · rw [if_neg e2, if_neg (by omega)]))
              · skip
                (try simp only [decide_eq_true_eq, decide_eq_false_iff_not, beq_iff_eq, beq_eq_false_iff_ne, bne_iff_ne, ne_eq, bne_eq_false_iff_eq, Bool.not_eq_true', Bool.not_eq_false', Int.not_lt, Int.not_le, gt_iff_lt, ge_iff_le] at hs42)
                have hcs : ¬ ((i : Int) = t ∨ blV f t (m + 1) (i : Int) = false) := by rintro (h | h); omega; rw [h] at hs42; simp at hs42
                have hp := par_in hv ht0 (by omega) hcs
                obtain ⟨q, hq⟩ := Int.eq_ofNat_of_zero_le hp.1
                have hqi : q < i := by omega
                have hsb := sumC_bd hv (q : Int) m (Nat.le_refl _)
                have hsp := sumC_part hv (q : Int) hq m (Nat.le_refl _) (by omega)
                have hqb := effV_bd hv ht0 q (by omega)
                have hqo := own_bd hv (j := q) (by omega)
                refine TC.skip ?_
                refine TE.next ?_
                refine TC.seq ?_
                refine TC.draw (k := 12) _ [] #[false, false, false, false, false, false, false, false, false, false, false, false] (by kernel_rfl) rfl rfl (fun _ h => h.drew) (fun _ h => h) ?_
                refine' TA.y (i := 0) #[true, false, false, false, false, false, false, false, false, false, false, false] rfl rfl rfl (by kernel_rfl) (fun _ _ _ h => h) (fun _ h => by exact Hp.sub h (by repeat (first | exact List.Sublist.refl _ | apply List.Sublist.cons))) rfl ?hy51 ?_
                case hy51 => exact Yl.move rfl rfl
                refine' TA.y (i := 1) #[true, true, false, false, false, false, false, false, false, false, false, false] rfl rfl rfl (by kernel_rfl) (fun _ _ _ h => h) (fun _ h => by exact Hp.sub h (by repeat (first | exact List.Sublist.refl _ | apply List.Sublist.cons))) rfl ?hy52 ?_
                case hy52 => exact Yl.move rfl rfl
                refine' TA.y (i := 2) #[true, true, true, false, false, false, false, false, false, false, false, false] rfl rfl rfl (by kernel_rfl) (fun _ _ _ h => h) (fun _ h => by exact Hp.sub h (by repeat (first | exact List.Sublist.refl _ | apply List.Sublist.cons))) rfl ?hy53 ?_
                case hy53 => first | exact Yl.ixkn (k := 3) rfl rfl rfl Try.underlying28 (by kernel_rfl) (by omega)
                refine' TA.y (i := 3) #[true, true, true, true, false, false, false, false, false, false, false, false] rfl rfl rfl (by kernel_rfl) (fun _ _ _ h => h) (fun _ h => by exact Hp.sub h (by repeat (first | exact List.Sublist.refl _ | apply List.Sublist.cons))) rfl ?hy54 ?_
                case hy54 => first | exact Yl.field0 (k := 0) 2 rfl rfl Try.underlying45 rfl (by kernel_rfl) rfl | exact Yl.field (k := 0) 2 rfl rfl Try.underlying45 rfl (by kernel_rfl) rfl
                refine' TA.y (i := 4) #[true, true, true, true, true, false, false, false, false, false, false, false] rfl rfl rfl (by kernel_rfl) (fun _ _ _ h => h) (fun _ h => by exact Hp.sub h (by repeat (first | exact List.Sublist.refl _ | apply List.Sublist.cons))) rfl ?hy55 ?_
                case hy55 => first | exact Yl.load rfl rfl (by kernel_rfl) (Hp.vw mem0 (by omega)) | exact Yl.load rfl rfl (by kernel_rfl) (Sl.nw hS (i := 0) rfl (by omega) (by decide)) | exact Yl.load rfl rfl (by kernel_rfl) (Sl.nw hS (i := 1) rfl (by omega) (by decide)) | exact Yl.load rfl rfl (by kernel_rfl) (Sl.nw hS (i := 2) rfl (by omega) (by decide)) | exact Yl.load rfl rfl (by kernel_rfl) (Hp.cell mem0 rfl) | exact Yl.load rfl rfl (by kernel_rfl) (Hp.cell mem1 rfl) | exact Yl.load rfl rfl (by kernel_rfl) (Hp.cell mem2 rfl) | exact Yl.load rfl rfl (by kernel_rfl) (Hp.cell mem3 rfl) | exact Yl.load rfl rfl (by kernel_rfl) (Hp.cell mem4 rfl) | exact Yl.load rfl rfl (by kernel_rfl) (Hp.cell mem5 rfl) | exact Yl.load rfl rfl (by kernel_rfl) (Hp.rowAt mem0 (by omega) rfl) | exact Yl.load rfl rfl (by kernel_rfl) (Hp.rowAt mem1 (by omega) rfl) | exact Yl.load rfl rfl (by kernel_rfl) (Hp.rowAt mem2 (by omega) rfl) | exact Yl.load rfl rfl (by kernel_rfl) (Hp.rowAt mem3 (by omega) rfl) | exact Yl.load rfl rfl (by kernel_rfl) (Hp.rowAt mem4 (by omega) rfl) | exact Yl.load rfl rfl (by kernel_rfl) (Hp.rowAt mem5 (by omega) rfl)
                refine' TA.y (i := 5) #[true, true, true, true, true, true, false, false, false, false, false, false] rfl rfl rfl (by kernel_rfl) (fun _ _ _ h => h) (fun _ h => by exact Hp.sub h (by repeat (first | exact List.Sublist.refl _ | apply List.Sublist.cons))) rfl ?hy56 ?_
                case hy56 => exact Yl.move rfl rfl
                refine' TA.y (i := 6) #[true, true, true, true, true, true, true, false, false, false, false, false] rfl rfl rfl (by kernel_rfl) (fun _ _ _ h => h) (fun _ h => by exact Hp.sub h (by repeat (first | exact List.Sublist.refl _ | apply List.Sublist.cons))) rfl ?hy57 ?_
                case hy57 => exact Yl.move rfl rfl
                refine' TA.y (i := 7) #[true, true, true, true, true, true, true, true, false, false, false, false] rfl rfl rfl (by kernel_rfl) (fun _ _ _ h => h) (fun _ h => by exact Hp.sub h (by repeat (first | exact List.Sublist.refl _ | apply List.Sublist.cons))) rfl ?hy58 ?_
                case hy58 => first | exact Yl.ixkn (k := 3) rfl rfl rfl Try.underlying28 (by kernel_rfl) (by omega)
                refine' TA.y (i := 8) #[true, true, true, true, true, true, true, true, true, false, false, false] rfl rfl rfl (by kernel_rfl) (fun _ _ _ h => h) (fun _ h => by exact Hp.sub h (by repeat (first | exact List.Sublist.refl _ | apply List.Sublist.cons))) rfl ?hy59 ?_
                case hy59 => first | exact Yl.field0 (k := 0) 1 rfl rfl Try.underlying45 rfl (by kernel_rfl) rfl | exact Yl.field (k := 0) 1 rfl rfl Try.underlying45 rfl (by kernel_rfl) rfl
                refine' TA.y (i := 9) #[true, true, true, true, true, true, true, true, true, true, false, false] rfl rfl rfl (by kernel_rfl) (fun _ _ _ h => h) (fun _ h => by exact Hp.sub h (by repeat (first | exact List.Sublist.refl _ | apply List.Sublist.cons))) rfl ?hy60 ?_
                case hy60 => first | exact Yl.load rfl rfl (by kernel_rfl) (Hp.vw mem0 (by omega)) | exact Yl.load rfl rfl (by kernel_rfl) (Sl.nw hS (i := 0) rfl (by omega) (by decide)) | exact Yl.load rfl rfl (by kernel_rfl) (Sl.nw hS (i := 1) rfl (by omega) (by decide)) | exact Yl.load rfl rfl (by kernel_rfl) (Sl.nw hS (i := 2) rfl (by omega) (by decide)) | exact Yl.load rfl rfl (by kernel_rfl) (Hp.cell mem0 rfl) | exact Yl.load rfl rfl (by kernel_rfl) (Hp.cell mem1 rfl) | exact Yl.load rfl rfl (by kernel_rfl) (Hp.cell mem2 rfl) | exact Yl.load rfl rfl (by kernel_rfl) (Hp.cell mem3 rfl) | exact Yl.load rfl rfl (by kernel_rfl) (Hp.cell mem4 rfl) | exact Yl.load rfl rfl (by kernel_rfl) (Hp.cell mem5 rfl) | exact Yl.load rfl rfl (by kernel_rfl) (Hp.rowAt mem0 (by omega) rfl) | exact Yl.load rfl rfl (by kernel_rfl) (Hp.rowAt mem1 (by omega) rfl) | exact Yl.load rfl rfl (by kernel_rfl) (Hp.rowAt mem2 (by omega) rfl) | exact Yl.load rfl rfl (by kernel_rfl) (Hp.rowAt mem3 (by omega) rfl) | exact Yl.load rfl rfl (by kernel_rfl) (Hp.rowAt mem4 (by omega) rfl) | exact Yl.load rfl rfl (by kernel_rfl) (Hp.rowAt mem5 (by omega) rfl)
                refine' TA.y (i := 10) #[true, true, true, true, true, true, true, true, true, true, true, false] rfl rfl rfl (by kernel_rfl) (fun _ _ _ h => h) (fun _ h => by exact Hp.sub h (by repeat (first | exact List.Sublist.refl _ | apply List.Sublist.cons))) rfl ?hy61 ?_
                case hy61 => exact Yl.min rfl rfl rfl
                refine TA.re (i := 53) (v' := .int .i64 (ownV f i)) rfl (congrArg (Value.int .i64) (rfl)) ?_
                refine' TA.y (i := 11) #[true, true, true, true, true, true, true, true, true, true, true, true] rfl rfl rfl (by kernel_rfl) (fun _ _ _ h => h) (fun _ h => by exact Hp.sub h (by repeat (first | exact List.Sublist.refl _ | apply List.Sublist.cons))) rfl ?hy62 ?_
                case hy62 => exact Yl.assign rfl rfl
                refine TA.done (by kernel_rfl) ?_
                refine TE.next ?_
                refine TC.seq ?_
                refine TC.region ?_
                refine' TL.y rfl rfl rfl ?hy63 ?_
                case hy63 => exact Yl.move rfl rfl
                refine' TL.y rfl rfl rfl ?hy64 ?_
                case hy64 => exact Yl.move rfl rfl
                refine' TL.y rfl rfl rfl ?hy65 ?_
                case hy65 => first | exact Yl.ixkn (k := 3) rfl rfl rfl Try.underlying28 (by kernel_rfl) (by omega)
                refine' TL.y rfl rfl rfl ?hy66 ?_
                case hy66 => first | exact Yl.field0 (k := 0) 0 rfl rfl Try.underlying45 rfl (by kernel_rfl) rfl | exact Yl.field (k := 0) 0 rfl rfl Try.underlying45 rfl (by kernel_rfl) rfl
                refine' TL.y rfl rfl rfl ?hy67 ?_
                case hy67 => first | exact Yl.load rfl rfl (by kernel_rfl) (Hp.vw mem0 (by omega)) | exact Yl.load rfl rfl (by kernel_rfl) (Sl.nw hS (i := 0) rfl (by omega) (by decide)) | exact Yl.load rfl rfl (by kernel_rfl) (Sl.nw hS (i := 1) rfl (by omega) (by decide)) | exact Yl.load rfl rfl (by kernel_rfl) (Sl.nw hS (i := 2) rfl (by omega) (by decide)) | exact Yl.load rfl rfl (by kernel_rfl) (Hp.cell mem0 rfl) | exact Yl.load rfl rfl (by kernel_rfl) (Hp.cell mem1 rfl) | exact Yl.load rfl rfl (by kernel_rfl) (Hp.cell mem2 rfl) | exact Yl.load rfl rfl (by kernel_rfl) (Hp.cell mem3 rfl) | exact Yl.load rfl rfl (by kernel_rfl) (Hp.cell mem4 rfl) | exact Yl.load rfl rfl (by kernel_rfl) (Hp.cell mem5 rfl) | exact Yl.load rfl rfl (by kernel_rfl) (Hp.rowAt mem0 (by omega) rfl) | exact Yl.load rfl rfl (by kernel_rfl) (Hp.rowAt mem1 (by omega) rfl) | exact Yl.load rfl rfl (by kernel_rfl) (Hp.rowAt mem2 (by omega) rfl) | exact Yl.load rfl rfl (by kernel_rfl) (Hp.rowAt mem3 (by omega) rfl) | exact Yl.load rfl rfl (by kernel_rfl) (Hp.rowAt mem4 (by omega) rfl) | exact Yl.load rfl rfl (by kernel_rfl) (Hp.rowAt mem5 (by omega) rfl)
                refine TL.re (i := 58) (v' := .int .i64 ((q : Int))) rfl (congrArg (Value.int .i64) (hq)) ?_
                refine' TL.y rfl rfl rfl ?hy68 ?_
                case hy68 => exact Yl.assign rfl rfl
                refine TL.nil ?_
                refine TE.next ?_
                refine TC.seq ?_
                refine TC.seq ?_
                refine TC.region ?_
                refine' TL.y rfl rfl rfl ?hy69 ?_
                case hy69 => exact Yl.move rfl rfl
                refine' TL.y rfl rfl rfl ?hy70 ?_
                case hy70 => exact Yl.move rfl rfl
                refine' TL.y rfl rfl rfl ?hy71 ?_
                case hy71 => exact Yl.bin rfl rfl rfl (Bin.eql _ _ _ _)
                refine TL.nil ?_
                refine TE.next ?_
                refine TC.cond rfl (fun hs61 => ?_) (fun hs61 => ?_)
                · skip
                  (try simp only [decide_eq_true_eq, decide_eq_false_iff_not, beq_iff_eq, beq_eq_false_iff_ne, bne_iff_ne, ne_eq, bne_eq_false_iff_eq, Bool.not_eq_true', Bool.not_eq_false', Int.not_lt, Int.not_le, gt_iff_lt, ge_iff_le] at hs61)
                  have hov : effV m f t i = ownV f i := effV_top hcs (by omega)
                  refine TC.seq ?_
                  refine TC.region ?_
                  refine' TL.y rfl rfl rfl ?hy72 ?_
                  case hy72 => exact Yl.move rfl rfl
                  refine' TL.y rfl rfl rfl ?hy73 ?_
                  case hy73 => exact Yl.move rfl rfl
                  refine' TL.y rfl rfl rfl ?hy74 ?_
                  case hy74 => exact Yl.move rfl rfl
                  refine' TL.y rfl rfl rfl ?hy75 ?_
                  case hy75 => first | exact Yl.ixn rfl rfl rfl Try.underlying25 (by kernel_rfl) (by omega) | exact Yl.ixz rfl rfl rfl Try.underlying25 (by kernel_rfl) (by omega) (by omega) | exact Yl.ixcn rfl rfl rfl Try.underlying25 (by kernel_rfl) (by omega) | exact Yl.ixcz rfl rfl rfl Try.underlying25 (by kernel_rfl) (by omega) (by omega)
                  refine' TL.s rfl rfl ?hy76 ?_
                  case hy76 => exact Ys.vw rfl rfl rfl (by kernel_rfl) foc0 (by omega)
                  refine TL.nil ?_
                  refine TE.next ?_
                  refine TC.exit ?_
                  refine TE.thenExit ?_
                  refine TE.inHere ?_
                  refine TE.next ?_
                  refine TC.region ?_
                  refine' TL.y rfl rfl rfl ?hy77 ?_
                  case hy77 => exact Yl.move rfl rfl
                  refine' TL.y rfl rfl rfl ?hy78 ?_
                  case hy78 => first | (refine Yl.val (Yl.bin rfl rfl rfl (Bin.add _ _ _ _)) (congrArg (Value.int .i64) (i64in ?_ ?_)) <;> omega) | exact Yl.bin rfl rfl rfl (Bin.add _ _ _ _)
                  refine' TL.y rfl rfl rfl ?hy79 ?_
                  case hy79 => exact Yl.assign rfl rfl
                  refine TL.nil ?_
                  refine TE.round (i + 1) ?hF80 ?hlt80 ?hs80 ?hm80
                  case hF80 => omega
                  case hlt80 => omega
                  case hs80 => exact ⟨rfl, rfl, rfl, rfl, trivial⟩
                  case hm80 => exact (fun w h => h.vwc (fun j hj => by
                      unfold upI; dsimp only
                      by_cases e : j = i
                      · simp only [if_pos e]; exact hov.symm.trans (by rw [if_pos (by omega), e])
                      · rw [if_neg e]
                        try rw [if_neg e]
                        by_cases e2 : j < i
                        · rw [if_pos e2, if_pos (by omega)]
                        · rw [if_neg e2, if_neg (by omega)]))
                · skip
                  (try simp only [decide_eq_true_eq, decide_eq_false_iff_not, beq_iff_eq, beq_eq_false_iff_ne, bne_iff_ne, ne_eq, bne_eq_false_iff_eq, Bool.not_eq_true', Bool.not_eq_false', Int.not_lt, Int.not_le, gt_iff_lt, ge_iff_le] at hs61)
                  refine TC.skip ?_
                  refine TE.next ?_
                  refine TC.seq ?_
                  refine TC.region ?_
                  refine' TL.y rfl rfl rfl ?hy81 ?_
                  case hy81 => exact Yl.assign rfl rfl
                  refine TL.nil ?_
                  refine TE.next ?_
                  refine TC.seq ?_
                  refine TC.seq ?_
                  refine TC.region ?_
                  refine' TL.y rfl rfl rfl ?hy82 ?_
                  case hy82 => exact Yl.assign rfl rfl
                  refine TL.nil ?_
                  refine TE.next ?_
                  refine TC.block ?_
                  refine TC.loop (σ := Nat) (fun n => [(0, .slice (some ⟨b, o, none⟩) m cp), (1, .int .i64 t), (5, .slice (some ⟨b26, 0, none⟩) m m), (6, .int .i64 (i : Int)), (7, .int .i64 (ownV f i)), (8, .int .i64 (q : Int)), (9, .int .i64 (sumC f (q : Int) n)), (10, .int .i64 (n : Int))]) (fun n => Hp W (fun _ => False) [ownR 3 1 (.slice (some ⟨b26, 0, none⟩) m m) m (Vw m (fun j => if j < i then effV m f t j else 0))]) (fun n => n ≤ m) (fun n => m - n) 0 ?hF83 ?hs83 ?hm83 ?round83
                  case hF83 => exact Nat.zero_le _
                  case hs83 => exact ⟨rfl, rfl, rfl, rfl, rfl, rfl, (by show some (Value.int .i64 0) = _; rw [sumC]), rfl, trivial⟩
                  case hm83 => exact fun _ h => h
                  case round83 =>
                    intro n hn
                    refine TC.seq ?_
                    refine TC.seq ?_
                    refine TC.region ?_
                    refine' TL.y rfl rfl rfl ?hy84 ?_
                    case hy84 => exact Yl.move rfl rfl
                    refine' TL.y rfl rfl rfl ?hy85 ?_
                    case hy85 => exact Yl.move rfl rfl
                    refine' TL.y rfl rfl rfl ?hy86 ?_
                    case hy86 => exact Yl.len rfl rfl Try.underlying28
                    refine' TL.y rfl rfl rfl ?hy87 ?_
                    case hy87 => exact Yl.bin rfl rfl rfl (Bin.lss _ _ _ _)
                    refine TL.nil ?_
                    refine TE.next ?_
                    refine TC.cond rfl (fun hs69 => ?_) (fun hs69 => ?_)
                    · skip
                      (try simp only [decide_eq_true_eq, decide_eq_false_iff_not, beq_iff_eq, beq_eq_false_iff_ne, bne_iff_ne, ne_eq, bne_eq_false_iff_eq, Bool.not_eq_true', Bool.not_eq_false', Int.not_lt, Int.not_le, gt_iff_lt, ge_iff_le] at hs69)
                      have hob2 := own_bd hv (j := n) (by omega)
                      have hsb2 := sumC_bd hv (q : Int) n (by omega)
                      refine TC.skip ?_
                      refine TE.next ?_
                      refine TC.seq ?_
                      refine TC.block ?_
                      refine TC.seq ?_
                      refine TC.region ?_
                      refine' TL.y rfl rfl rfl ?hy88 ?_
                      case hy88 => exact Yl.move rfl rfl
                      refine' TL.y rfl rfl rfl ?hy89 ?_
                      case hy89 => exact Yl.move rfl rfl
                      refine' TL.y rfl rfl rfl ?hy90 ?_
                      case hy90 => first | exact Yl.ixkn (k := 3) rfl rfl rfl Try.underlying28 (by kernel_rfl) (by omega)
                      refine' TL.y rfl rfl rfl ?hy91 ?_
                      case hy91 => first | exact Yl.field0 (k := 0) 0 rfl rfl Try.underlying45 rfl (by kernel_rfl) rfl | exact Yl.field (k := 0) 0 rfl rfl Try.underlying45 rfl (by kernel_rfl) rfl
                      refine' TL.y rfl rfl rfl ?hy92 ?_
                      case hy92 => first | exact Yl.load rfl rfl (by kernel_rfl) (Hp.vw mem0 (by omega)) | exact Yl.load rfl rfl (by kernel_rfl) (Sl.nw hS (i := 0) rfl (by omega) (by decide)) | exact Yl.load rfl rfl (by kernel_rfl) (Sl.nw hS (i := 1) rfl (by omega) (by decide)) | exact Yl.load rfl rfl (by kernel_rfl) (Sl.nw hS (i := 2) rfl (by omega) (by decide)) | exact Yl.load rfl rfl (by kernel_rfl) (Hp.cell mem0 rfl) | exact Yl.load rfl rfl (by kernel_rfl) (Hp.cell mem1 rfl) | exact Yl.load rfl rfl (by kernel_rfl) (Hp.cell mem2 rfl) | exact Yl.load rfl rfl (by kernel_rfl) (Hp.cell mem3 rfl) | exact Yl.load rfl rfl (by kernel_rfl) (Hp.cell mem4 rfl) | exact Yl.load rfl rfl (by kernel_rfl) (Hp.cell mem5 rfl) | exact Yl.load rfl rfl (by kernel_rfl) (Hp.rowAt mem0 (by omega) rfl) | exact Yl.load rfl rfl (by kernel_rfl) (Hp.rowAt mem1 (by omega) rfl) | exact Yl.load rfl rfl (by kernel_rfl) (Hp.rowAt mem2 (by omega) rfl) | exact Yl.load rfl rfl (by kernel_rfl) (Hp.rowAt mem3 (by omega) rfl) | exact Yl.load rfl rfl (by kernel_rfl) (Hp.rowAt mem4 (by omega) rfl) | exact Yl.load rfl rfl (by kernel_rfl) (Hp.rowAt mem5 (by omega) rfl)
                      refine TL.re (i := 76) (v' := .int .i64 ((f n).1)) rfl (congrArg (Value.int .i64) (rfl)) ?_
                      refine' TL.y rfl rfl rfl ?hy93 ?_
                      case hy93 => exact Yl.move rfl rfl
                      refine' TL.y rfl rfl rfl ?hy94 ?_
                      case hy94 => exact Yl.bin rfl rfl rfl (Bin.eql _ _ _ _)
                      refine TL.nil ?_
                      refine TE.next ?_
                      refine TC.cond rfl (fun hs78 => ?_) (fun hs78 => ?_)
                      · skip
                        (try simp only [decide_eq_true_eq, decide_eq_false_iff_not, beq_iff_eq, beq_eq_false_iff_ne, bne_iff_ne, ne_eq, bne_eq_false_iff_eq, Bool.not_eq_true', Bool.not_eq_false', Int.not_lt, Int.not_le, gt_iff_lt, ge_iff_le] at hs78)
                        refine TC.draw (k := 14) _ [] #[false, false, false, false, false, false, false, false, false, false, false, false, false, false] (by kernel_rfl) rfl rfl (fun _ h => h.drew) (fun _ h => h) ?_
                        refine' TA.y (i := 0) #[true, false, false, false, false, false, false, false, false, false, false, false, false, false] rfl rfl rfl (by kernel_rfl) (fun _ _ _ h => h) (fun _ h => by exact Hp.sub h (by repeat (first | exact List.Sublist.refl _ | apply List.Sublist.cons))) rfl ?hy95 ?_
                        case hy95 => exact Yl.move rfl rfl
                        refine' TA.y (i := 1) #[true, true, false, false, false, false, false, false, false, false, false, false, false, false] rfl rfl rfl (by kernel_rfl) (fun _ _ _ h => h) (fun _ h => by exact Hp.sub h (by repeat (first | exact List.Sublist.refl _ | apply List.Sublist.cons))) rfl ?hy96 ?_
                        case hy96 => exact Yl.move rfl rfl
                        refine' TA.y (i := 2) #[true, true, true, false, false, false, false, false, false, false, false, false, false, false] rfl rfl rfl (by kernel_rfl) (fun _ _ _ h => h) (fun _ h => by exact Hp.sub h (by repeat (first | exact List.Sublist.refl _ | apply List.Sublist.cons))) rfl ?hy97 ?_
                        case hy97 => exact Yl.move rfl rfl
                        refine' TA.y (i := 3) #[true, true, true, true, false, false, false, false, false, false, false, false, false, false] rfl rfl rfl (by kernel_rfl) (fun _ _ _ h => h) (fun _ h => by exact Hp.sub h (by repeat (first | exact List.Sublist.refl _ | apply List.Sublist.cons))) rfl ?hy98 ?_
                        case hy98 => first | exact Yl.ixkn (k := 3) rfl rfl rfl Try.underlying28 (by kernel_rfl) (by omega)
                        refine' TA.y (i := 4) #[true, true, true, true, true, false, false, false, false, false, false, false, false, false] rfl rfl rfl (by kernel_rfl) (fun _ _ _ h => h) (fun _ h => by exact Hp.sub h (by repeat (first | exact List.Sublist.refl _ | apply List.Sublist.cons))) rfl ?hy99 ?_
                        case hy99 => first | exact Yl.field0 (k := 0) 2 rfl rfl Try.underlying45 rfl (by kernel_rfl) rfl | exact Yl.field (k := 0) 2 rfl rfl Try.underlying45 rfl (by kernel_rfl) rfl
                        refine' TA.y (i := 5) #[true, true, true, true, true, true, false, false, false, false, false, false, false, false] rfl rfl rfl (by kernel_rfl) (fun _ _ _ h => h) (fun _ h => by exact Hp.sub h (by repeat (first | exact List.Sublist.refl _ | apply List.Sublist.cons))) rfl ?hy100 ?_
                        case hy100 => first | exact Yl.load rfl rfl (by kernel_rfl) (Hp.vw mem0 (by omega)) | exact Yl.load rfl rfl (by kernel_rfl) (Sl.nw hS (i := 0) rfl (by omega) (by decide)) | exact Yl.load rfl rfl (by kernel_rfl) (Sl.nw hS (i := 1) rfl (by omega) (by decide)) | exact Yl.load rfl rfl (by kernel_rfl) (Sl.nw hS (i := 2) rfl (by omega) (by decide)) | exact Yl.load rfl rfl (by kernel_rfl) (Hp.cell mem0 rfl) | exact Yl.load rfl rfl (by kernel_rfl) (Hp.cell mem1 rfl) | exact Yl.load rfl rfl (by kernel_rfl) (Hp.cell mem2 rfl) | exact Yl.load rfl rfl (by kernel_rfl) (Hp.cell mem3 rfl) | exact Yl.load rfl rfl (by kernel_rfl) (Hp.cell mem4 rfl) | exact Yl.load rfl rfl (by kernel_rfl) (Hp.cell mem5 rfl) | exact Yl.load rfl rfl (by kernel_rfl) (Hp.rowAt mem0 (by omega) rfl) | exact Yl.load rfl rfl (by kernel_rfl) (Hp.rowAt mem1 (by omega) rfl) | exact Yl.load rfl rfl (by kernel_rfl) (Hp.rowAt mem2 (by omega) rfl) | exact Yl.load rfl rfl (by kernel_rfl) (Hp.rowAt mem3 (by omega) rfl) | exact Yl.load rfl rfl (by kernel_rfl) (Hp.rowAt mem4 (by omega) rfl) | exact Yl.load rfl rfl (by kernel_rfl) (Hp.rowAt mem5 (by omega) rfl)
                        refine' TA.y (i := 6) #[true, true, true, true, true, true, true, false, false, false, false, false, false, false] rfl rfl rfl (by kernel_rfl) (fun _ _ _ h => h) (fun _ h => by exact Hp.sub h (by repeat (first | exact List.Sublist.refl _ | apply List.Sublist.cons))) rfl ?hy101 ?_
                        case hy101 => exact Yl.move rfl rfl
                        refine' TA.y (i := 7) #[true, true, true, true, true, true, true, true, false, false, false, false, false, false] rfl rfl rfl (by kernel_rfl) (fun _ _ _ h => h) (fun _ h => by exact Hp.sub h (by repeat (first | exact List.Sublist.refl _ | apply List.Sublist.cons))) rfl ?hy102 ?_
                        case hy102 => exact Yl.move rfl rfl
                        refine' TA.y (i := 8) #[true, true, true, true, true, true, true, true, true, false, false, false, false, false] rfl rfl rfl (by kernel_rfl) (fun _ _ _ h => h) (fun _ h => by exact Hp.sub h (by repeat (first | exact List.Sublist.refl _ | apply List.Sublist.cons))) rfl ?hy103 ?_
                        case hy103 => first | exact Yl.ixkn (k := 3) rfl rfl rfl Try.underlying28 (by kernel_rfl) (by omega)
                        refine' TA.y (i := 9) #[true, true, true, true, true, true, true, true, true, true, false, false, false, false] rfl rfl rfl (by kernel_rfl) (fun _ _ _ h => h) (fun _ h => by exact Hp.sub h (by repeat (first | exact List.Sublist.refl _ | apply List.Sublist.cons))) rfl ?hy104 ?_
                        case hy104 => first | exact Yl.field0 (k := 0) 1 rfl rfl Try.underlying45 rfl (by kernel_rfl) rfl | exact Yl.field (k := 0) 1 rfl rfl Try.underlying45 rfl (by kernel_rfl) rfl
                        refine' TA.y (i := 10) #[true, true, true, true, true, true, true, true, true, true, true, false, false, false] rfl rfl rfl (by kernel_rfl) (fun _ _ _ h => h) (fun _ h => by exact Hp.sub h (by repeat (first | exact List.Sublist.refl _ | apply List.Sublist.cons))) rfl ?hy105 ?_
                        case hy105 => first | exact Yl.load rfl rfl (by kernel_rfl) (Hp.vw mem0 (by omega)) | exact Yl.load rfl rfl (by kernel_rfl) (Sl.nw hS (i := 0) rfl (by omega) (by decide)) | exact Yl.load rfl rfl (by kernel_rfl) (Sl.nw hS (i := 1) rfl (by omega) (by decide)) | exact Yl.load rfl rfl (by kernel_rfl) (Sl.nw hS (i := 2) rfl (by omega) (by decide)) | exact Yl.load rfl rfl (by kernel_rfl) (Hp.cell mem0 rfl) | exact Yl.load rfl rfl (by kernel_rfl) (Hp.cell mem1 rfl) | exact Yl.load rfl rfl (by kernel_rfl) (Hp.cell mem2 rfl) | exact Yl.load rfl rfl (by kernel_rfl) (Hp.cell mem3 rfl) | exact Yl.load rfl rfl (by kernel_rfl) (Hp.cell mem4 rfl) | exact Yl.load rfl rfl (by kernel_rfl) (Hp.cell mem5 rfl) | exact Yl.load rfl rfl (by kernel_rfl) (Hp.rowAt mem0 (by omega) rfl) | exact Yl.load rfl rfl (by kernel_rfl) (Hp.rowAt mem1 (by omega) rfl) | exact Yl.load rfl rfl (by kernel_rfl) (Hp.rowAt mem2 (by omega) rfl) | exact Yl.load rfl rfl (by kernel_rfl) (Hp.rowAt mem3 (by omega) rfl) | exact Yl.load rfl rfl (by kernel_rfl) (Hp.rowAt mem4 (by omega) rfl) | exact Yl.load rfl rfl (by kernel_rfl) (Hp.rowAt mem5 (by omega) rfl)
                        refine' TA.y (i := 11) #[true, true, true, true, true, true, true, true, true, true, true, true, false, false] rfl rfl rfl (by kernel_rfl) (fun _ _ _ h => h) (fun _ h => by exact Hp.sub h (by repeat (first | exact List.Sublist.refl _ | apply List.Sublist.cons))) rfl ?hy106 ?_
                        case hy106 => exact Yl.min rfl rfl rfl
                        refine TA.re (i := 90) (v' := .int .i64 (ownV f n)) rfl (congrArg (Value.int .i64) (rfl)) ?_
                        refine' TA.y (i := 12) #[true, true, true, true, true, true, true, true, true, true, true, true, true, false] rfl rfl rfl (by kernel_rfl) (fun _ _ _ h => h) (fun _ h => by exact Hp.sub h (by repeat (first | exact List.Sublist.refl _ | apply List.Sublist.cons))) rfl ?hy107 ?_
                        case hy107 => first | (refine Yl.val (Yl.bin rfl rfl rfl (Bin.add _ _ _ _)) (congrArg (Value.int .i64) (i64in ?_ ?_)) <;> omega) | exact Yl.bin rfl rfl rfl (Bin.add _ _ _ _)
                        refine' TA.y (i := 13) #[true, true, true, true, true, true, true, true, true, true, true, true, true, true] rfl rfl rfl (by kernel_rfl) (fun _ _ _ h => h) (fun _ h => by exact Hp.sub h (by repeat (first | exact List.Sublist.refl _ | apply List.Sublist.cons))) rfl ?hy108 ?_
                        case hy108 => exact Yl.assign rfl rfl
                        refine TA.done (by kernel_rfl) ?_
                        refine TE.inNormal ?_
                        refine TE.next ?_
                        refine TC.region ?_
                        refine' TL.y rfl rfl rfl ?hy109 ?_
                        case hy109 => exact Yl.move rfl rfl
                        refine' TL.y rfl rfl rfl ?hy110 ?_
                        case hy110 => first | (refine Yl.val (Yl.bin rfl rfl rfl (Bin.add _ _ _ _)) (congrArg (Value.int .i64) (i64in ?_ ?_)) <;> omega) | exact Yl.bin rfl rfl rfl (Bin.add _ _ _ _)
                        refine' TL.y rfl rfl rfl ?hy111 ?_
                        case hy111 => exact Yl.assign rfl rfl
                        refine TL.nil ?_
                        refine TE.round (n + 1) ?hF112 ?hlt112 ?hs112 ?hm112
                        case hF112 => omega
                        case hlt112 => omega
                        case hs112 => exact ⟨rfl, rfl, rfl, rfl, rfl, rfl, (by show some (Value.int .i64 (sumC f (q : Int) n + ownV f n)) = _; rw [sumC, if_pos hs78]), rfl, trivial⟩
                        case hm112 => exact fun _ h => h
                      · skip
                        (try simp only [decide_eq_true_eq, decide_eq_false_iff_not, beq_iff_eq, beq_eq_false_iff_ne, bne_iff_ne, ne_eq, bne_eq_false_iff_eq, Bool.not_eq_true', Bool.not_eq_false', Int.not_lt, Int.not_le, gt_iff_lt, ge_iff_le] at hs78)
                        refine TC.skip ?_
                        refine TE.inNormal ?_
                        refine TE.next ?_
                        refine TC.region ?_
                        refine' TL.y rfl rfl rfl ?hy113 ?_
                        case hy113 => exact Yl.move rfl rfl
                        refine' TL.y rfl rfl rfl ?hy114 ?_
                        case hy114 => first | (refine Yl.val (Yl.bin rfl rfl rfl (Bin.add _ _ _ _)) (congrArg (Value.int .i64) (i64in ?_ ?_)) <;> omega) | exact Yl.bin rfl rfl rfl (Bin.add _ _ _ _)
                        refine' TL.y rfl rfl rfl ?hy115 ?_
                        case hy115 => exact Yl.assign rfl rfl
                        refine TL.nil ?_
                        refine TE.round (n + 1) ?hF116 ?hlt116 ?hs116 ?hm116
                        case hF116 => omega
                        case hlt116 => omega
                        case hs116 => exact ⟨rfl, rfl, rfl, rfl, rfl, rfl, (by show some (Value.int .i64 (sumC f (q : Int) n)) = _; rw [sumC, if_neg hs78, Int.add_zero]), rfl, trivial⟩
                        case hm116 => exact fun _ h => h
                    · skip
                      (try simp only [decide_eq_true_eq, decide_eq_false_iff_not, beq_iff_eq, beq_eq_false_iff_ne, bne_iff_ne, ne_eq, bne_eq_false_iff_eq, Bool.not_eq_true', Bool.not_eq_false', Int.not_lt, Int.not_le, gt_iff_lt, ge_iff_le] at hs69)
                      have hnm : n = m := by omega
                      refine TC.re (i := 9) (v' := .int .i64 (sumC f (q : Int) m)) rfl (by rw [hnm]) ?_
                      refine TC.exit ?_
                      refine TE.thenExit ?_
                      refine TE.thenExit ?_
                      refine TE.inHere ?_
                      refine TE.next ?_
                      refine TC.seq ?_
                      refine TC.region ?_
                      refine' TL.y rfl rfl rfl ?hy117 ?_
                      case hy117 => exact Yl.move rfl rfl
                      refine' TL.y rfl rfl rfl ?hy118 ?_
                      case hy118 => exact Yl.move rfl rfl
                      refine' TL.y rfl rfl rfl ?hy119 ?_
                      case hy119 => exact Yl.move rfl rfl
                      refine' TL.y rfl rfl rfl ?hy120 ?_
                      case hy120 => first | exact Yl.ixn rfl rfl rfl Try.underlying25 (by kernel_rfl) (by omega) | exact Yl.ixz rfl rfl rfl Try.underlying25 (by kernel_rfl) (by omega) (by omega) | exact Yl.ixcn rfl rfl rfl Try.underlying25 (by kernel_rfl) (by omega) | exact Yl.ixcz rfl rfl rfl Try.underlying25 (by kernel_rfl) (by omega) (by omega)
                      refine' TL.s rfl rfl ?hy121 ?_
                      case hy121 => exact Ys.vw rfl rfl rfl (by kernel_rfl) foc0 (by omega)
                      refine TL.nil ?_
                      refine TE.next ?_
                      refine TC.seq ?_
                      refine TC.region ?_
                      refine' TL.y rfl rfl rfl ?hy122 ?_
                      case hy122 => exact Yl.move rfl rfl
                      refine' TL.y rfl rfl rfl ?hy123 ?_
                      case hy123 => exact Yl.move rfl rfl
                      refine' TL.y rfl rfl rfl ?hy124 ?_
                      case hy124 => exact Yl.move rfl rfl
                      refine' TL.y rfl rfl rfl ?hy125 ?_
                      case hy125 => first | exact Yl.ixn rfl rfl rfl Try.underlying25 (by kernel_rfl) (by omega) | exact Yl.ixz rfl rfl rfl Try.underlying25 (by kernel_rfl) (by omega) (by omega) | exact Yl.ixcn rfl rfl rfl Try.underlying25 (by kernel_rfl) (by omega) | exact Yl.ixcz rfl rfl rfl Try.underlying25 (by kernel_rfl) (by omega) (by omega)
                      refine' TL.y rfl rfl rfl ?hy126 ?_
                      case hy126 => first | exact Yl.load rfl rfl (by kernel_rfl) (Hp.vw mem0 (by omega)) | exact Yl.load rfl rfl (by kernel_rfl) (Sl.nw hS (i := 0) rfl (by omega) (by decide)) | exact Yl.load rfl rfl (by kernel_rfl) (Sl.nw hS (i := 1) rfl (by omega) (by decide)) | exact Yl.load rfl rfl (by kernel_rfl) (Sl.nw hS (i := 2) rfl (by omega) (by decide)) | exact Yl.load rfl rfl (by kernel_rfl) (Hp.cell mem0 rfl) | exact Yl.load rfl rfl (by kernel_rfl) (Hp.cell mem1 rfl) | exact Yl.load rfl rfl (by kernel_rfl) (Hp.cell mem2 rfl) | exact Yl.load rfl rfl (by kernel_rfl) (Hp.cell mem3 rfl) | exact Yl.load rfl rfl (by kernel_rfl) (Hp.cell mem4 rfl) | exact Yl.load rfl rfl (by kernel_rfl) (Hp.cell mem5 rfl) | exact Yl.load rfl rfl (by kernel_rfl) (Hp.rowAt mem0 (by omega) rfl) | exact Yl.load rfl rfl (by kernel_rfl) (Hp.rowAt mem1 (by omega) rfl) | exact Yl.load rfl rfl (by kernel_rfl) (Hp.rowAt mem2 (by omega) rfl) | exact Yl.load rfl rfl (by kernel_rfl) (Hp.rowAt mem3 (by omega) rfl) | exact Yl.load rfl rfl (by kernel_rfl) (Hp.rowAt mem4 (by omega) rfl) | exact Yl.load rfl rfl (by kernel_rfl) (Hp.rowAt mem5 (by omega) rfl)
                      refine TL.re (i := 100) (v' := .int .i64 (effV m f t q)) rfl (congrArg (Value.int .i64) (by unfold upI; rw [if_neg (by omega)]; exact if_pos hqi)) ?_
                      refine' TL.y rfl rfl rfl ?hy127 ?_
                      case hy127 => exact Yl.bin rfl rfl rfl (Bin.gtr _ _ _ _)
                      refine TL.nil ?_
                      refine TE.next ?_
                      refine TC.cond rfl (fun hs101 => ?_) (fun hs101 => ?_)
                      · skip
                        (try simp only [decide_eq_true_eq, decide_eq_false_iff_not, beq_iff_eq, beq_eq_false_iff_ne, bne_iff_ne, ne_eq, bne_eq_false_iff_eq, Bool.not_eq_true', Bool.not_eq_false', Int.not_lt, Int.not_le, gt_iff_lt, ge_iff_le] at hs101)
                        have hov : effV m f t i = ownV f i * effV m f t q / sumC f (q : Int) m := by rw [effV_part hcs (by omega) (by omega), hq, Int.toNat_natCast, if_pos (by omega)]
                        refine TC.region ?_
                        refine' TL.y rfl rfl rfl ?hy128 ?_
                        case hy128 => exact Yl.move rfl rfl
                        refine' TL.y rfl rfl rfl ?hy129 ?_
                        case hy129 => exact Yl.move rfl rfl
                        refine' TL.y rfl rfl rfl ?hy130 ?_
                        case hy130 => exact Yl.move rfl rfl
                        refine' TL.y rfl rfl rfl ?hy131 ?_
                        case hy131 => exact Yl.move rfl rfl
                        refine' TL.y rfl rfl rfl ?hy132 ?_
                        case hy132 => exact Yl.move rfl rfl
                        refine' TL.y rfl rfl rfl ?hy133 ?_
                        case hy133 => first | exact Yl.ixn rfl rfl rfl Try.underlying25 (by kernel_rfl) (by omega) | exact Yl.ixz rfl rfl rfl Try.underlying25 (by kernel_rfl) (by omega) (by omega) | exact Yl.ixcn rfl rfl rfl Try.underlying25 (by kernel_rfl) (by omega) | exact Yl.ixcz rfl rfl rfl Try.underlying25 (by kernel_rfl) (by omega) (by omega)
                        refine' TL.y rfl rfl rfl ?hy134 ?_
                        case hy134 => first | exact Yl.load rfl rfl (by kernel_rfl) (Hp.vw mem0 (by omega)) | exact Yl.load rfl rfl (by kernel_rfl) (Sl.nw hS (i := 0) rfl (by omega) (by decide)) | exact Yl.load rfl rfl (by kernel_rfl) (Sl.nw hS (i := 1) rfl (by omega) (by decide)) | exact Yl.load rfl rfl (by kernel_rfl) (Sl.nw hS (i := 2) rfl (by omega) (by decide)) | exact Yl.load rfl rfl (by kernel_rfl) (Hp.cell mem0 rfl) | exact Yl.load rfl rfl (by kernel_rfl) (Hp.cell mem1 rfl) | exact Yl.load rfl rfl (by kernel_rfl) (Hp.cell mem2 rfl) | exact Yl.load rfl rfl (by kernel_rfl) (Hp.cell mem3 rfl) | exact Yl.load rfl rfl (by kernel_rfl) (Hp.cell mem4 rfl) | exact Yl.load rfl rfl (by kernel_rfl) (Hp.cell mem5 rfl) | exact Yl.load rfl rfl (by kernel_rfl) (Hp.rowAt mem0 (by omega) rfl) | exact Yl.load rfl rfl (by kernel_rfl) (Hp.rowAt mem1 (by omega) rfl) | exact Yl.load rfl rfl (by kernel_rfl) (Hp.rowAt mem2 (by omega) rfl) | exact Yl.load rfl rfl (by kernel_rfl) (Hp.rowAt mem3 (by omega) rfl) | exact Yl.load rfl rfl (by kernel_rfl) (Hp.rowAt mem4 (by omega) rfl) | exact Yl.load rfl rfl (by kernel_rfl) (Hp.rowAt mem5 (by omega) rfl)
                        refine TL.re (i := 108) (v' := .int .i64 (effV m f t q)) rfl (congrArg (Value.int .i64) (by unfold upI; rw [if_neg (by omega)]; exact if_pos hqi)) ?_
                        refine' TL.y rfl rfl rfl ?hy135 ?_
                        case hy135 => exact Yl.move rfl rfl
                        refine' TL.c rfl rfl rfl ?hy136 ?_
                        case hy136 => exact Yc.call rfl Try.func26 (by kernel_rfl) rfl rfl (Hp.calls (fun w h => k_rpart w hob.1 (by omega) hqb.1 (by omega) (by omega) (by omega) hsp))
                        intro _
                        refine' TL.y rfl rfl rfl ?hy137 ?_
                        case hy137 => first | exact Yl.ixn rfl rfl rfl Try.underlying25 (by kernel_rfl) (by omega) | exact Yl.ixz rfl rfl rfl Try.underlying25 (by kernel_rfl) (by omega) (by omega) | exact Yl.ixcn rfl rfl rfl Try.underlying25 (by kernel_rfl) (by omega) | exact Yl.ixcz rfl rfl rfl Try.underlying25 (by kernel_rfl) (by omega) (by omega)
                        refine' TL.s rfl rfl ?hy138 ?_
                        case hy138 => exact Ys.vw rfl rfl rfl (by kernel_rfl) foc0 (by omega)
                        refine TL.nil ?_
                        refine TE.inNormal ?_
                        refine TE.next ?_
                        refine TC.region ?_
                        refine' TL.y rfl rfl rfl ?hy139 ?_
                        case hy139 => exact Yl.move rfl rfl
                        refine' TL.y rfl rfl rfl ?hy140 ?_
                        case hy140 => first | (refine Yl.val (Yl.bin rfl rfl rfl (Bin.add _ _ _ _)) (congrArg (Value.int .i64) (i64in ?_ ?_)) <;> omega) | exact Yl.bin rfl rfl rfl (Bin.add _ _ _ _)
                        refine' TL.y rfl rfl rfl ?hy141 ?_
                        case hy141 => exact Yl.assign rfl rfl
                        refine TL.nil ?_
                        refine TE.round (i + 1) ?hF142 ?hlt142 ?hs142 ?hm142
                        case hF142 => omega
                        case hlt142 => omega
                        case hs142 => exact ⟨rfl, rfl, rfl, rfl, trivial⟩
                        case hm142 => exact (fun w h => h.vwc (fun j hj => by
                            unfold upI; dsimp only
                            by_cases e : j = i
                            · simp only [if_pos e]; exact hov.symm.trans (by rw [if_pos (by omega), e])
                            · rw [if_neg e]
                              try rw [if_neg e]
                              by_cases e2 : j < i
                              · rw [if_pos e2, if_pos (by omega)]
                              · rw [if_neg e2, if_neg (by omega)]))
                      · skip
                        (try simp only [decide_eq_true_eq, decide_eq_false_iff_not, beq_iff_eq, beq_eq_false_iff_ne, bne_iff_ne, ne_eq, bne_eq_false_iff_eq, Bool.not_eq_true', Bool.not_eq_false', Int.not_lt, Int.not_le, gt_iff_lt, ge_iff_le] at hs101)
                        have hov : effV m f t i = ownV f i := by rw [effV_part hcs (by omega) (by omega), hq, Int.toNat_natCast, if_neg (by omega)]
                        refine TC.skip ?_
                        refine TE.inNormal ?_
                        refine TE.next ?_
                        refine TC.region ?_
                        refine' TL.y rfl rfl rfl ?hy143 ?_
                        case hy143 => exact Yl.move rfl rfl
                        refine' TL.y rfl rfl rfl ?hy144 ?_
                        case hy144 => first | (refine Yl.val (Yl.bin rfl rfl rfl (Bin.add _ _ _ _)) (congrArg (Value.int .i64) (i64in ?_ ?_)) <;> omega) | exact Yl.bin rfl rfl rfl (Bin.add _ _ _ _)
                        refine' TL.y rfl rfl rfl ?hy145 ?_
                        case hy145 => exact Yl.assign rfl rfl
                        refine TL.nil ?_
                        refine TE.round (i + 1) ?hF146 ?hlt146 ?hs146 ?hm146
                        case hF146 => omega
                        case hlt146 => omega
                        case hs146 => exact ⟨rfl, rfl, rfl, rfl, trivial⟩
                        case hm146 => exact (fun w h => h.vwc (fun j hj => by
                            unfold upI; dsimp only
                            by_cases e : j = i
                            · simp only [if_pos e]; exact hov.symm.trans (by rw [if_pos (by omega), e])
                            · rw [if_neg e]
                              try rw [if_neg e]
                              by_cases e2 : j < i
                              · rw [if_pos e2, if_pos (by omega)]
                              · rw [if_neg e2, if_neg (by omega)]))
          · skip
            (try simp only [decide_eq_true_eq, decide_eq_false_iff_not, beq_iff_eq, beq_eq_false_iff_ne, bne_iff_ne, ne_eq, bne_eq_false_iff_eq, Bool.not_eq_true', Bool.not_eq_false', Int.not_lt, Int.not_le, gt_iff_lt, ge_iff_le] at hs30)
            refine TC.exit ?_
            refine TE.thenExit ?_
            refine TE.thenExit ?_
            refine TE.inHere ?_
            refine TE.next ?_
            refine TC.seq ?_
            refine TC.region ?_
            refine' TL.y rfl rfl rfl ?hy147 ?_
            case hy147 => exact Yl.move rfl rfl
            refine' TL.y rfl rfl rfl ?hy148 ?_
            case hy148 => exact Yl.assign rfl rfl
            refine TL.nil ?_
            refine TE.next ?_
            refine TC.ret ?_
            refine TE.ret1 rfl rfl ?_
            obtain rfl : i = m := by omega
            exact fun w h => ⟨_, rfl, by rw [show lenE i f t = i from if_pos hV]; exact (h.vwc (fun j hj => if_pos hj)).leaveNew⟩
end Go.Proofs.Ytipdpmmjmlimhaa.Pk
