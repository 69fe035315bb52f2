/- Who asks for more. -/
import Derived.Test.YtipdpmmjmlimhaaPrW
import Derived.Test.YtipdpmmjmlimhaaProg
import Derived.RowKit3
namespace Go.Proofs.Ytipdpmmjmlimhaa.Pk
open Go Go.RowKit Go.Proofs.Ytipdpmmjmlimhaa.HL Go.Proofs.Ytipdpmmjmlimhaa.Ev Go.Proofs.YtipdpmmjmlimhaaW.PrintWords Go.Proofs.PrP Go.Proofs.DvP
set_option linter.unusedVariables false
set_option linter.unusedSimpArgs false
attribute [local irreducible] upR nU Nw Vw blV sumC sumK heldV
theorem Nw_one {m : Nat} {f : Nat → Nd} : ∀ x ∈ Nw m f, x.oneCell' = true := fun x hx => by
  unfold Nw at hx
  obtain ⟨j, _, h⟩ := List.mem_flatMap.1 hx
  simp at h
  rcases h with rfl | rfl | rfl <;> rfl
set_option maxRecDepth 100000 in
set_option maxHeartbeats 2000000 in
theorem law_more (W : World) {m : Nat} {f : Nat → Nd} {A : Option Addr} {cp : Nat} (hS : Sl W A (Nw m f)) (hm : m ≤ 9223372036854775807) (hcp : m ≤ cp) (t g more : Int) : Calls Try.prog 6 #[.slice A m cp, .int .i64 t, .int .i64 g, .int .i64 more] W fun e w' => e = .returned (.bool true) ∧ Below W.heap.size W w' := by
  have hM : Hp W (fun _ => False) [] W := Hp.start
  refine TC.enter (n := 124) Try.func6 rfl rfl rfl hM ?_
  refine TC.seq ?_
  refine TC.region ?_
  refine' TL.y rfl rfl rfl ?hy1 ?_
  case hy1 => exact Yl.assign rfl rfl
  refine TL.nil ?_
  refine TE.next ?_
  refine TC.seq ?_
  refine TC.region ?_
  refine' TL.c rfl rfl rfl ?hy2 ?_
  case hy2 => exact Yc.call rfl Try.func9 (by kernel_rfl) rfl rfl (Hp.calls (fun w h => k_works w))
  intro _
  refine' TL.y rfl rfl rfl ?hy3 ?_
  case hy3 => exact Yl.assign rfl rfl
  refine TL.nil ?_
  refine TE.next ?_
  refine TC.seq ?_
  refine TC.seq ?_
  refine TC.region ?_
  refine' TL.y rfl rfl rfl ?hy4 ?_
  case hy4 => exact Yl.move rfl rfl
  refine' TL.y rfl rfl rfl ?hy5 ?_
  case hy5 => exact Yl.not rfl rfl
  refine TL.nil ?_
  refine TE.next ?_
  refine TC.no rfl rfl ?_
  refine TC.skip ?_
  refine TE.next ?_
  refine TC.seq ?_
  refine TC.seq ?_
  refine TC.region ?_
  refine' TL.y rfl rfl rfl ?hy6 ?_
  case hy6 => exact Yl.move rfl rfl
  refine' TL.y rfl rfl rfl ?hy7 ?_
  case hy7 => exact Yl.len rfl rfl Try.underlying22
  refine' TL.y rfl rfl rfl ?hy8 ?_
  case hy8 => exact Yl.bin rfl rfl rfl (Bin.gtr _ _ _ _)
  refine' TL.y rfl rfl rfl ?hy9 ?_
  case hy9 => exact Yl.move rfl rfl
  refine TL.split (i := 20) rfl (fun hs20 => ?_) (fun hs20 => ?_)
  · skip
    (try simp only [decide_eq_true_eq, decide_eq_false_iff_not, beq_iff_eq, beq_eq_false_iff_ne, bne_iff_ne, ne_eq, bne_eq_false_iff_eq, Bool.not_eq_true', Bool.not_eq_false', Int.not_lt, Int.not_le, gt_iff_lt, ge_iff_le] at hs20)
    refine TL.skip rfl rfl rfl ?_
    refine TL.skip rfl rfl rfl ?_
    refine TL.skip rfl rfl rfl ?_
    refine' TL.y rfl rfl rfl ?hy10 ?_
    case hy10 => exact Yl.pickT rfl rfl rfl
    refine' TL.y rfl rfl rfl ?hy11 ?_
    case hy11 => exact Yl.move rfl rfl
    refine TL.skip rfl rfl rfl ?_
    refine TL.skip rfl rfl rfl ?_
    refine' TL.y rfl rfl rfl ?hy12 ?_
    case hy12 => exact Yl.pickT rfl rfl rfl
    refine' TL.y rfl rfl rfl ?hy13 ?_
    case hy13 => exact Yl.move rfl rfl
    refine TL.skip rfl rfl rfl ?_
    refine TL.skip rfl rfl rfl ?_
    refine TL.skip rfl rfl rfl ?_
    refine TL.skip rfl rfl rfl ?_
    refine' TL.y rfl rfl rfl ?hy14 ?_
    case hy14 => exact Yl.pickT rfl rfl rfl
    refine' TL.y rfl rfl rfl ?hy15 ?_
    case hy15 => exact Yl.move rfl rfl
    refine TL.skip rfl rfl rfl ?_
    refine TL.skip rfl rfl rfl ?_
    refine' TL.y rfl rfl rfl ?hy16 ?_
    case hy16 => exact Yl.pickT rfl rfl rfl
    refine' TL.y rfl rfl rfl ?hy17 ?_
    case hy17 => exact Yl.move rfl rfl
    refine TL.skip rfl rfl rfl ?_
    refine TL.skip rfl rfl rfl ?_
    refine TL.skip rfl rfl rfl ?_
    refine TL.skip rfl rfl rfl ?_
    refine' TL.y rfl rfl rfl ?hy18 ?_
    case hy18 => exact Yl.pickT rfl rfl rfl
    refine' TL.y rfl rfl rfl ?hy19 ?_
    case hy19 => exact Yl.move rfl rfl
    refine TL.skip rfl rfl rfl ?_
    refine TL.skip rfl rfl rfl ?_
    refine TL.skip rfl rfl rfl ?_
    refine TL.skip rfl rfl rfl ?_
    refine TL.skip rfl rfl rfl ?_
    refine TL.skip rfl rfl rfl ?_
    refine TL.skip rfl rfl rfl ?_
    refine' TL.y rfl rfl rfl ?hy20 ?_
    case hy20 => exact Yl.pickT rfl rfl rfl
    refine' TL.y rfl rfl rfl ?hy21 ?_
    case hy21 => exact Yl.move rfl rfl
    refine TL.skip rfl rfl rfl ?_
    refine TL.skip rfl rfl rfl ?_
    refine TL.skip rfl rfl rfl ?_
    refine TL.skip rfl rfl rfl ?_
    refine TL.skip rfl rfl rfl ?_
    refine TL.skip rfl rfl rfl ?_
    refine TL.skip rfl rfl rfl ?_
    refine' TL.y rfl rfl rfl ?hy22 ?_
    case hy22 => exact Yl.pickT rfl rfl rfl
    refine' TL.y rfl rfl rfl ?hy23 ?_
    case hy23 => exact Yl.move rfl rfl
    refine TL.skip rfl rfl rfl ?_
    refine TL.skip rfl rfl rfl ?_
    refine' TL.y rfl rfl rfl ?hy24 ?_
    case hy24 => exact Yl.pickT rfl rfl rfl
    refine TL.nil ?_
    refine TE.next ?_
    refine TC.yes rfl rfl ?_
    refine TC.seq ?_
    refine TC.region ?_
    refine' TL.y rfl rfl rfl ?hy25 ?_
    case hy25 => exact Yl.move rfl rfl
    refine' TL.y rfl rfl rfl ?hy26 ?_
    case hy26 => exact Yl.assign rfl rfl
    refine TL.nil ?_
    refine TE.next ?_
    refine TC.ret ?_
    refine TE.thenRet ?_
    refine TE.ret1 rfl rfl ?_
    exact fun w h => ⟨rfl, (h.sub (List.nil_sublist _)).below⟩
  · skip
    (try simp only [decide_eq_true_eq, decide_eq_false_iff_not, beq_iff_eq, beq_eq_false_iff_ne, bne_iff_ne, ne_eq, bne_eq_false_iff_eq, Bool.not_eq_true', Bool.not_eq_false', Int.not_lt, Int.not_le, gt_iff_lt, ge_iff_le] at hs20)
    refine' TL.y rfl rfl rfl ?hy27 ?_
    case hy27 => exact Yl.move rfl rfl
    refine' TL.c rfl rfl rfl ?hy28 ?_
    case hy28 => exact Yc.call rfl Try.func14 (by kernel_rfl) rfl rfl (Hp.calls (fun w h => k_valid w (hS.below h.below) hm))
    intro _
    refine' TL.y rfl rfl rfl ?hy29 ?_
    case hy29 => exact Yl.not rfl rfl
    refine' TL.y rfl rfl rfl ?hy30 ?_
    case hy30 => exact Yl.pickF rfl rfl rfl
    refine' TL.y rfl rfl rfl ?hy31 ?_
    case hy31 => exact Yl.move rfl rfl
    refine TL.split (i := 25) rfl (fun hs25 => ?_) (fun hs25 => ?_)
    · skip
      (try simp only [decide_eq_true_eq, decide_eq_false_iff_not, beq_iff_eq, beq_eq_false_iff_ne, bne_iff_ne, ne_eq, bne_eq_false_iff_eq, Bool.not_eq_true', Bool.not_eq_false', Int.not_lt, Int.not_le, gt_iff_lt, ge_iff_le] at hs25)
      refine TL.skip rfl rfl rfl ?_
      refine TL.skip rfl rfl rfl ?_
      refine' TL.y rfl rfl rfl ?hy32 ?_
      case hy32 => exact Yl.pickT rfl rfl rfl
      refine' TL.y rfl rfl rfl ?hy33 ?_
      case hy33 => exact Yl.move rfl rfl
      refine TL.skip rfl rfl rfl ?_
      refine TL.skip rfl rfl rfl ?_
      refine TL.skip rfl rfl rfl ?_
      refine TL.skip rfl rfl rfl ?_
      refine' TL.y rfl rfl rfl ?hy34 ?_
      case hy34 => exact Yl.pickT rfl rfl rfl
      refine' TL.y rfl rfl rfl ?hy35 ?_
      case hy35 => exact Yl.move rfl rfl
      refine TL.skip rfl rfl rfl ?_
      refine TL.skip rfl rfl rfl ?_
      refine' TL.y rfl rfl rfl ?hy36 ?_
      case hy36 => exact Yl.pickT rfl rfl rfl
      refine' TL.y rfl rfl rfl ?hy37 ?_
      case hy37 => exact Yl.move rfl rfl
      refine TL.skip rfl rfl rfl ?_
      refine TL.skip rfl rfl rfl ?_
      refine TL.skip rfl rfl rfl ?_
      refine TL.skip rfl rfl rfl ?_
      refine' TL.y rfl rfl rfl ?hy38 ?_
      case hy38 => exact Yl.pickT rfl rfl rfl
      refine' TL.y rfl rfl rfl ?hy39 ?_
      case hy39 => exact Yl.move rfl rfl
      refine TL.skip rfl rfl rfl ?_
      refine TL.skip rfl rfl rfl ?_
      refine TL.skip rfl rfl rfl ?_
      refine TL.skip rfl rfl rfl ?_
      refine TL.skip rfl rfl rfl ?_
      refine TL.skip rfl rfl rfl ?_
      refine TL.skip rfl rfl rfl ?_
      refine' TL.y rfl rfl rfl ?hy40 ?_
      case hy40 => exact Yl.pickT rfl rfl rfl
      refine' TL.y rfl rfl rfl ?hy41 ?_
      case hy41 => exact Yl.move rfl rfl
      refine TL.skip rfl rfl rfl ?_
      refine TL.skip rfl rfl rfl ?_
      refine TL.skip rfl rfl rfl ?_
      refine TL.skip rfl rfl rfl ?_
      refine TL.skip rfl rfl rfl ?_
      refine TL.skip rfl rfl rfl ?_
      refine TL.skip rfl rfl rfl ?_
      refine' TL.y rfl rfl rfl ?hy42 ?_
      case hy42 => exact Yl.pickT rfl rfl rfl
      refine' TL.y rfl rfl rfl ?hy43 ?_
      case hy43 => exact Yl.move rfl rfl
      refine TL.skip rfl rfl rfl ?_
      refine TL.skip rfl rfl rfl ?_
      refine' TL.y rfl rfl rfl ?hy44 ?_
      case hy44 => exact Yl.pickT rfl rfl rfl
      refine TL.nil ?_
      refine TE.next ?_
      refine TC.yes rfl rfl ?_
      refine TC.seq ?_
      refine TC.region ?_
      refine' TL.y rfl rfl rfl ?hy45 ?_
      case hy45 => exact Yl.move rfl rfl
      refine' TL.y rfl rfl rfl ?hy46 ?_
      case hy46 => exact Yl.assign rfl rfl
      refine TL.nil ?_
      refine TE.next ?_
      refine TC.ret ?_
      refine TE.thenRet ?_
      refine TE.ret1 rfl rfl ?_
      exact fun w h => ⟨rfl, (h.sub (List.nil_sublist _)).below⟩
    · skip
      (try simp only [decide_eq_true_eq, decide_eq_false_iff_not, beq_iff_eq, beq_eq_false_iff_ne, bne_iff_ne, ne_eq, bne_eq_false_iff_eq, Bool.not_eq_true', Bool.not_eq_false', Int.not_lt, Int.not_le, gt_iff_lt, ge_iff_le] at hs25)
      refine' TL.y rfl rfl rfl ?hy47 ?_
      case hy47 => exact Yl.move rfl rfl
      refine' TL.y rfl rfl rfl ?hy48 ?_
      case hy48 => exact Yl.bin rfl rfl rfl (Bin.lss _ _ _ _)
      refine' TL.y rfl rfl rfl ?hy49 ?_
      case hy49 => exact Yl.pickF rfl rfl rfl
      refine' TL.y rfl rfl rfl ?hy50 ?_
      case hy50 => exact Yl.move rfl rfl
      refine TL.split (i := 29) rfl (fun hs29 => ?_) (fun hs29 => ?_)
      · skip
        (try simp only [decide_eq_true_eq, decide_eq_false_iff_not, beq_iff_eq, beq_eq_false_iff_ne, bne_iff_ne, ne_eq, bne_eq_false_iff_eq, Bool.not_eq_true', Bool.not_eq_false', Int.not_lt, Int.not_le, gt_iff_lt, ge_iff_le] at hs29)
        refine TL.skip rfl rfl rfl ?_
        refine TL.skip rfl rfl rfl ?_
        refine TL.skip rfl rfl rfl ?_
        refine TL.skip rfl rfl rfl ?_
        refine' TL.y rfl rfl rfl ?hy51 ?_
        case hy51 => exact Yl.pickT rfl rfl rfl
        refine' TL.y rfl rfl rfl ?hy52 ?_
        case hy52 => exact Yl.move rfl rfl
        refine TL.skip rfl rfl rfl ?_
        refine TL.skip rfl rfl rfl ?_
        refine' TL.y rfl rfl rfl ?hy53 ?_
        case hy53 => exact Yl.pickT rfl rfl rfl
        refine' TL.y rfl rfl rfl ?hy54 ?_
        case hy54 => exact Yl.move rfl rfl
        refine TL.skip rfl rfl rfl ?_
        refine TL.skip rfl rfl rfl ?_
        refine TL.skip rfl rfl rfl ?_
        refine TL.skip rfl rfl rfl ?_
        refine' TL.y rfl rfl rfl ?hy55 ?_
        case hy55 => exact Yl.pickT rfl rfl rfl
        refine' TL.y rfl rfl rfl ?hy56 ?_
        case hy56 => exact Yl.move rfl rfl
        refine TL.skip rfl rfl rfl ?_
        refine TL.skip rfl rfl rfl ?_
        refine TL.skip rfl rfl rfl ?_
        refine TL.skip rfl rfl rfl ?_
        refine TL.skip rfl rfl rfl ?_
        refine TL.skip rfl rfl rfl ?_
        refine TL.skip rfl rfl rfl ?_
        refine' TL.y rfl rfl rfl ?hy57 ?_
        case hy57 => exact Yl.pickT rfl rfl rfl
        refine' TL.y rfl rfl rfl ?hy58 ?_
        case hy58 => exact Yl.move rfl rfl
        refine TL.skip rfl rfl rfl ?_
        refine TL.skip rfl rfl rfl ?_
        refine TL.skip rfl rfl rfl ?_
        refine TL.skip rfl rfl rfl ?_
        refine TL.skip rfl rfl rfl ?_
        refine TL.skip rfl rfl rfl ?_
        refine TL.skip rfl rfl rfl ?_
        refine' TL.y rfl rfl rfl ?hy59 ?_
        case hy59 => exact Yl.pickT rfl rfl rfl
        refine' TL.y rfl rfl rfl ?hy60 ?_
        case hy60 => exact Yl.move rfl rfl
        refine TL.skip rfl rfl rfl ?_
        refine TL.skip rfl rfl rfl ?_
        refine' TL.y rfl rfl rfl ?hy61 ?_
        case hy61 => exact Yl.pickT rfl rfl rfl
        refine TL.nil ?_
        refine TE.next ?_
        refine TC.yes rfl rfl ?_
        refine TC.seq ?_
        refine TC.region ?_
        refine' TL.y rfl rfl rfl ?hy62 ?_
        case hy62 => exact Yl.move rfl rfl
        refine' TL.y rfl rfl rfl ?hy63 ?_
        case hy63 => exact Yl.assign rfl rfl
        refine TL.nil ?_
        refine TE.next ?_
        refine TC.ret ?_
        refine TE.thenRet ?_
        refine TE.ret1 rfl rfl ?_
        exact fun w h => ⟨rfl, (h.sub (List.nil_sublist _)).below⟩
      · skip
        (try simp only [decide_eq_true_eq, decide_eq_false_iff_not, beq_iff_eq, beq_eq_false_iff_ne, bne_iff_ne, ne_eq, bne_eq_false_iff_eq, Bool.not_eq_true', Bool.not_eq_false', Int.not_lt, Int.not_le, gt_iff_lt, ge_iff_le] at hs29)
        refine' TL.y rfl rfl rfl ?hy64 ?_
        case hy64 => exact Yl.move rfl rfl
        refine' TL.y rfl rfl rfl ?hy65 ?_
        case hy65 => exact Yl.move rfl rfl
        refine' TL.y rfl rfl rfl ?hy66 ?_
        case hy66 => exact Yl.len rfl rfl Try.underlying22
        refine' TL.y rfl rfl rfl ?hy67 ?_
        case hy67 => exact Yl.bin rfl rfl rfl (Bin.geq _ _ _ _)
        refine' TL.y rfl rfl rfl ?hy68 ?_
        case hy68 => exact Yl.pickF rfl rfl rfl
        refine' TL.y rfl rfl rfl ?hy69 ?_
        case hy69 => exact Yl.move rfl rfl
        refine TL.split (i := 35) rfl (fun hs35 => ?_) (fun hs35 => ?_)
        · skip
          (try simp only [decide_eq_true_eq, decide_eq_false_iff_not, beq_iff_eq, beq_eq_false_iff_ne, bne_iff_ne, ne_eq, bne_eq_false_iff_eq, Bool.not_eq_true', Bool.not_eq_false', Int.not_lt, Int.not_le, gt_iff_lt, ge_iff_le] at hs35)
          refine TL.skip rfl rfl rfl ?_
          refine TL.skip rfl rfl rfl ?_
          refine' TL.y rfl rfl rfl ?hy70 ?_
          case hy70 => exact Yl.pickT rfl rfl rfl
          refine' TL.y rfl rfl rfl ?hy71 ?_
          case hy71 => exact Yl.move rfl rfl
          refine TL.skip rfl rfl rfl ?_
          refine TL.skip rfl rfl rfl ?_
          refine TL.skip rfl rfl rfl ?_
          refine TL.skip rfl rfl rfl ?_
          refine' TL.y rfl rfl rfl ?hy72 ?_
          case hy72 => exact Yl.pickT rfl rfl rfl
          refine' TL.y rfl rfl rfl ?hy73 ?_
          case hy73 => exact Yl.move rfl rfl
          refine TL.skip rfl rfl rfl ?_
          refine TL.skip rfl rfl rfl ?_
          refine TL.skip rfl rfl rfl ?_
          refine TL.skip rfl rfl rfl ?_
          refine TL.skip rfl rfl rfl ?_
          refine TL.skip rfl rfl rfl ?_
          refine TL.skip rfl rfl rfl ?_
          refine' TL.y rfl rfl rfl ?hy74 ?_
          case hy74 => exact Yl.pickT rfl rfl rfl
          refine' TL.y rfl rfl rfl ?hy75 ?_
          case hy75 => exact Yl.move rfl rfl
          refine TL.skip rfl rfl rfl ?_
          refine TL.skip rfl rfl rfl ?_
          refine TL.skip rfl rfl rfl ?_
          refine TL.skip rfl rfl rfl ?_
          refine TL.skip rfl rfl rfl ?_
          refine TL.skip rfl rfl rfl ?_
          refine TL.skip rfl rfl rfl ?_
          refine' TL.y rfl rfl rfl ?hy76 ?_
          case hy76 => exact Yl.pickT rfl rfl rfl
          refine' TL.y rfl rfl rfl ?hy77 ?_
          case hy77 => exact Yl.move rfl rfl
          refine TL.skip rfl rfl rfl ?_
          refine TL.skip rfl rfl rfl ?_
          refine' TL.y rfl rfl rfl ?hy78 ?_
          case hy78 => exact Yl.pickT rfl rfl rfl
          refine TL.nil ?_
          refine TE.next ?_
          refine TC.yes rfl rfl ?_
          refine TC.seq ?_
          refine TC.region ?_
          refine' TL.y rfl rfl rfl ?hy79 ?_
          case hy79 => exact Yl.move rfl rfl
          refine' TL.y rfl rfl rfl ?hy80 ?_
          case hy80 => exact Yl.assign rfl rfl
          refine TL.nil ?_
          refine TE.next ?_
          refine TC.ret ?_
          refine TE.thenRet ?_
          refine TE.ret1 rfl rfl ?_
          exact fun w h => ⟨rfl, (h.sub (List.nil_sublist _)).below⟩
        · skip
          (try simp only [decide_eq_true_eq, decide_eq_false_iff_not, beq_iff_eq, beq_eq_false_iff_ne, bne_iff_ne, ne_eq, bne_eq_false_iff_eq, Bool.not_eq_true', Bool.not_eq_false', Int.not_lt, Int.not_le, gt_iff_lt, ge_iff_le] at hs35)
          refine' TL.y rfl rfl rfl ?hy81 ?_
          case hy81 => exact Yl.move rfl rfl
          refine' TL.y rfl rfl rfl ?hy82 ?_
          case hy82 => exact Yl.bin rfl rfl rfl (Bin.lss _ _ _ _)
          refine' TL.y rfl rfl rfl ?hy83 ?_
          case hy83 => exact Yl.pickF rfl rfl rfl
          refine' TL.y rfl rfl rfl ?hy84 ?_
          case hy84 => exact Yl.move rfl rfl
          refine TL.split (i := 39) rfl (fun hs39 => ?_) (fun hs39 => ?_)
          · skip
            (try simp only [decide_eq_true_eq, decide_eq_false_iff_not, beq_iff_eq, beq_eq_false_iff_ne, bne_iff_ne, ne_eq, bne_eq_false_iff_eq, Bool.not_eq_true', Bool.not_eq_false', Int.not_lt, Int.not_le, gt_iff_lt, ge_iff_le] at hs39)
            refine TL.skip rfl rfl rfl ?_
            refine TL.skip rfl rfl rfl ?_
            refine TL.skip rfl rfl rfl ?_
            refine TL.skip rfl rfl rfl ?_
            refine' TL.y rfl rfl rfl ?hy85 ?_
            case hy85 => exact Yl.pickT rfl rfl rfl
            refine' TL.y rfl rfl rfl ?hy86 ?_
            case hy86 => exact Yl.move rfl rfl
            refine TL.skip rfl rfl rfl ?_
            refine TL.skip rfl rfl rfl ?_
            refine TL.skip rfl rfl rfl ?_
            refine TL.skip rfl rfl rfl ?_
            refine TL.skip rfl rfl rfl ?_
            refine TL.skip rfl rfl rfl ?_
            refine TL.skip rfl rfl rfl ?_
            refine' TL.y rfl rfl rfl ?hy87 ?_
            case hy87 => exact Yl.pickT rfl rfl rfl
            refine' TL.y rfl rfl rfl ?hy88 ?_
            case hy88 => exact Yl.move rfl rfl
            refine TL.skip rfl rfl rfl ?_
            refine TL.skip rfl rfl rfl ?_
            refine TL.skip rfl rfl rfl ?_
            refine TL.skip rfl rfl rfl ?_
            refine TL.skip rfl rfl rfl ?_
            refine TL.skip rfl rfl rfl ?_
            refine TL.skip rfl rfl rfl ?_
            refine' TL.y rfl rfl rfl ?hy89 ?_
            case hy89 => exact Yl.pickT rfl rfl rfl
            refine' TL.y rfl rfl rfl ?hy90 ?_
            case hy90 => exact Yl.move rfl rfl
            refine TL.skip rfl rfl rfl ?_
            refine TL.skip rfl rfl rfl ?_
            refine' TL.y rfl rfl rfl ?hy91 ?_
            case hy91 => exact Yl.pickT rfl rfl rfl
            refine TL.nil ?_
            refine TE.next ?_
            refine TC.yes rfl rfl ?_
            refine TC.seq ?_
            refine TC.region ?_
            refine' TL.y rfl rfl rfl ?hy92 ?_
            case hy92 => exact Yl.move rfl rfl
            refine' TL.y rfl rfl rfl ?hy93 ?_
            case hy93 => exact Yl.assign rfl rfl
            refine TL.nil ?_
            refine TE.next ?_
            refine TC.ret ?_
            refine TE.thenRet ?_
            refine TE.ret1 rfl rfl ?_
            exact fun w h => ⟨rfl, (h.sub (List.nil_sublist _)).below⟩
          · skip
            (try simp only [decide_eq_true_eq, decide_eq_false_iff_not, beq_iff_eq, beq_eq_false_iff_ne, bne_iff_ne, ne_eq, bne_eq_false_iff_eq, Bool.not_eq_true', Bool.not_eq_false', Int.not_lt, Int.not_le, gt_iff_lt, ge_iff_le] at hs39)
            refine' TL.y rfl rfl rfl ?hy94 ?_
            case hy94 => exact Yl.move rfl rfl
            refine' TL.y rfl rfl rfl ?hy95 ?_
            case hy95 => exact Yl.move rfl rfl
            refine' TL.y rfl rfl rfl ?hy96 ?_
            case hy96 => exact Yl.len rfl rfl Try.underlying22
            refine' TL.y rfl rfl rfl ?hy97 ?_
            case hy97 => exact Yl.bin rfl rfl rfl (Bin.geq _ _ _ _)
            refine' TL.y rfl rfl rfl ?hy98 ?_
            case hy98 => exact Yl.pickF rfl rfl rfl
            refine' TL.y rfl rfl rfl ?hy99 ?_
            case hy99 => exact Yl.move rfl rfl
            refine TL.split (i := 45) rfl (fun hs45 => ?_) (fun hs45 => ?_)
            · skip
              (try simp only [decide_eq_true_eq, decide_eq_false_iff_not, beq_iff_eq, beq_eq_false_iff_ne, bne_iff_ne, ne_eq, bne_eq_false_iff_eq, Bool.not_eq_true', Bool.not_eq_false', Int.not_lt, Int.not_le, gt_iff_lt, ge_iff_le] at hs45)
              refine TL.skip rfl rfl rfl ?_
              refine TL.skip rfl rfl rfl ?_
              refine TL.skip rfl rfl rfl ?_
              refine TL.skip rfl rfl rfl ?_
              refine TL.skip rfl rfl rfl ?_
              refine TL.skip rfl rfl rfl ?_
              refine TL.skip rfl rfl rfl ?_
              refine' TL.y rfl rfl rfl ?hy100 ?_
              case hy100 => exact Yl.pickT rfl rfl rfl
              refine' TL.y rfl rfl rfl ?hy101 ?_
              case hy101 => exact Yl.move rfl rfl
              refine TL.skip rfl rfl rfl ?_
              refine TL.skip rfl rfl rfl ?_
              refine TL.skip rfl rfl rfl ?_
              refine TL.skip rfl rfl rfl ?_
              refine TL.skip rfl rfl rfl ?_
              refine TL.skip rfl rfl rfl ?_
              refine TL.skip rfl rfl rfl ?_
              refine' TL.y rfl rfl rfl ?hy102 ?_
              case hy102 => exact Yl.pickT rfl rfl rfl
              refine' TL.y rfl rfl rfl ?hy103 ?_
              case hy103 => exact Yl.move rfl rfl
              refine TL.skip rfl rfl rfl ?_
              refine TL.skip rfl rfl rfl ?_
              refine' TL.y rfl rfl rfl ?hy104 ?_
              case hy104 => exact Yl.pickT rfl rfl rfl
              refine TL.nil ?_
              refine TE.next ?_
              refine TC.yes rfl rfl ?_
              refine TC.seq ?_
              refine TC.region ?_
              refine' TL.y rfl rfl rfl ?hy105 ?_
              case hy105 => exact Yl.move rfl rfl
              refine' TL.y rfl rfl rfl ?hy106 ?_
              case hy106 => exact Yl.assign rfl rfl
              refine TL.nil ?_
              refine TE.next ?_
              refine TC.ret ?_
              refine TE.thenRet ?_
              refine TE.ret1 rfl rfl ?_
              exact fun w h => ⟨rfl, (h.sub (List.nil_sublist _)).below⟩
            · skip
              (try simp only [decide_eq_true_eq, decide_eq_false_iff_not, beq_iff_eq, beq_eq_false_iff_ne, bne_iff_ne, ne_eq, bne_eq_false_iff_eq, Bool.not_eq_true', Bool.not_eq_false', Int.not_lt, Int.not_le, gt_iff_lt, ge_iff_le] at hs45)
              have hV : Vld m f ∧ 0 ≤ t ∧ t < m := by refine ⟨?_, by omega, by omega⟩; by_cases e : Vld m f; exact e; simp_all
              have hv := hV.1
              have ht0 := hV.2.1
              have ht1 := hV.2.2
              have hm64 := hv.m1
              obtain ⟨b, o, rfl⟩ := Sl.some2 hS (by rw [Nw_length]; omega)
              obtain ⟨G, rfl⟩ := Int.eq_ofNat_of_zero_le (show 0 ≤ g by omega)
              have hG : G < m := by omega
              refine' TL.y rfl rfl rfl ?hy107 ?_
              case hy107 => exact Yl.move rfl rfl
              refine' TL.y rfl rfl rfl ?hy108 ?_
              case hy108 => exact Yl.move rfl rfl
              refine' TL.y rfl rfl rfl ?hy109 ?_
              case hy109 => exact Yl.ixkn (k := 3) rfl rfl rfl Try.underlying22 (by kernel_rfl) (by omega)
              refine' TL.y rfl rfl rfl ?hy110 ?_
              case hy110 => first | exact Yl.field0 (k := 0) 0 rfl rfl Try.underlying38 rfl (by kernel_rfl) rfl | exact Yl.field (k := 0) 0 rfl rfl Try.underlying38 rfl (by kernel_rfl) rfl
              refine' TL.y rfl rfl rfl ?hy111 ?_
              case hy111 => first | exact Yl.load rfl rfl (by kernel_rfl) (Hp.vw mem0 (by omega)) | exact Yl.load rfl rfl (by kernel_rfl) (Hp.vw mem1 (by omega)) | exact Yl.load rfl rfl (by kernel_rfl) (Hp.vw mem2 (by omega)) | exact Yl.load rfl rfl (by kernel_rfl) (Sl.nw hS (i := 0) rfl (by omega) (by decide)) | exact Yl.load rfl rfl (by kernel_rfl) (Sl.nw hS (i := 1) rfl (by omega) (by decide)) | exact Yl.load rfl rfl (by kernel_rfl) (Sl.nw hS (i := 2) rfl (by omega) (by decide)) | exact Yl.load rfl rfl (by kernel_rfl) (Hp.cell mem0 rfl) | exact Yl.load rfl rfl (by kernel_rfl) (Hp.cell mem1 rfl) | exact Yl.load rfl rfl (by kernel_rfl) (Hp.cell mem2 rfl) | exact Yl.load rfl rfl (by kernel_rfl) (Hp.cell mem3 rfl) | exact Yl.load rfl rfl (by kernel_rfl) (Hp.cell mem4 rfl) | exact Yl.load rfl rfl (by kernel_rfl) (Hp.rowAt mem0 (by omega) rfl) | exact Yl.load rfl rfl (by kernel_rfl) (Hp.rowAt mem1 (by omega) rfl) | exact Yl.load rfl rfl (by kernel_rfl) (Hp.rowAt mem2 (by omega) rfl) | exact Yl.load rfl rfl (by kernel_rfl) (Hp.rowAt mem3 (by omega) rfl) | exact Yl.load rfl rfl (by kernel_rfl) (Hp.rowAt mem4 (by omega) rfl)
              refine TL.re (i := 50) (v' := .int .i64 (f G).1) rfl rfl ?_
              refine' TL.y rfl rfl rfl ?hy112 ?_
              case hy112 => exact Yl.move rfl rfl
              refine' TL.y rfl rfl rfl ?hy113 ?_
              case hy113 => exact Yl.bin rfl rfl rfl (Bin.neq _ _ _ _)
              refine' TL.y rfl rfl rfl ?hy114 ?_
              case hy114 => exact Yl.pickF rfl rfl rfl
              refine' TL.y rfl rfl rfl ?hy115 ?_
              case hy115 => exact Yl.move rfl rfl
              refine TL.split (i := 54) rfl (fun hs54 => ?_) (fun hs54 => ?_)
              · skip
                (try simp only [decide_eq_true_eq, decide_eq_false_iff_not, beq_iff_eq, beq_eq_false_iff_ne, bne_iff_ne, ne_eq, bne_eq_false_iff_eq, Bool.not_eq_true', Bool.not_eq_false', Int.not_lt, Int.not_le, gt_iff_lt, ge_iff_le] at hs54)
                refine TL.skip rfl rfl rfl ?_
                refine TL.skip rfl rfl rfl ?_
                refine TL.skip rfl rfl rfl ?_
                refine TL.skip rfl rfl rfl ?_
                refine TL.skip rfl rfl rfl ?_
                refine TL.skip rfl rfl rfl ?_
                refine TL.skip rfl rfl rfl ?_
                refine' TL.y rfl rfl rfl ?hy116 ?_
                case hy116 => exact Yl.pickT rfl rfl rfl
                refine' TL.y rfl rfl rfl ?hy117 ?_
                case hy117 => exact Yl.move rfl rfl
                refine TL.skip rfl rfl rfl ?_
                refine TL.skip rfl rfl rfl ?_
                refine' TL.y rfl rfl rfl ?hy118 ?_
                case hy118 => exact Yl.pickT rfl rfl rfl
                refine TL.nil ?_
                refine TE.next ?_
                refine TC.yes rfl rfl ?_
                refine TC.seq ?_
                refine TC.region ?_
                refine' TL.y rfl rfl rfl ?hy119 ?_
                case hy119 => exact Yl.move rfl rfl
                refine' TL.y rfl rfl rfl ?hy120 ?_
                case hy120 => exact Yl.assign rfl rfl
                refine TL.nil ?_
                refine TE.next ?_
                refine TC.ret ?_
                refine TE.thenRet ?_
                refine TE.ret1 rfl rfl ?_
                exact fun w h => ⟨rfl, (h.sub (List.nil_sublist _)).below⟩
              · skip
                (try simp only [decide_eq_true_eq, decide_eq_false_iff_not, beq_iff_eq, beq_eq_false_iff_ne, bne_iff_ne, ne_eq, bne_eq_false_iff_eq, Bool.not_eq_true', Bool.not_eq_false', Int.not_lt, Int.not_le, gt_iff_lt, ge_iff_le] at hs54)
                refine' TL.y rfl rfl rfl ?hy121 ?_
                case hy121 => exact Yl.move rfl rfl
                refine' TL.y rfl rfl rfl ?hy122 ?_
                case hy122 => exact Yl.move rfl rfl
                refine' TL.y rfl rfl rfl ?hy123 ?_
                case hy123 => exact Yl.move rfl rfl
                refine' TL.y rfl rfl rfl ?hy124 ?_
                case hy124 => exact Yl.ixkn (k := 3) rfl rfl rfl Try.underlying22 (by kernel_rfl) (by omega)
                refine' TL.y rfl rfl rfl ?hy125 ?_
                case hy125 => first | exact Yl.field0 (k := 0) 2 rfl rfl Try.underlying38 rfl (by kernel_rfl) rfl | exact Yl.field (k := 0) 2 rfl rfl Try.underlying38 rfl (by kernel_rfl) rfl
                refine' TL.y rfl rfl rfl ?hy126 ?_
                case hy126 => first | exact Yl.load rfl rfl (by kernel_rfl) (Hp.vw mem0 (by omega)) | exact Yl.load rfl rfl (by kernel_rfl) (Hp.vw mem1 (by omega)) | exact Yl.load rfl rfl (by kernel_rfl) (Hp.vw mem2 (by omega)) | exact Yl.load rfl rfl (by kernel_rfl) (Sl.nw hS (i := 0) rfl (by omega) (by decide)) | exact Yl.load rfl rfl (by kernel_rfl) (Sl.nw hS (i := 1) rfl (by omega) (by decide)) | exact Yl.load rfl rfl (by kernel_rfl) (Sl.nw hS (i := 2) rfl (by omega) (by decide)) | exact Yl.load rfl rfl (by kernel_rfl) (Hp.cell mem0 rfl) | exact Yl.load rfl rfl (by kernel_rfl) (Hp.cell mem1 rfl) | exact Yl.load rfl rfl (by kernel_rfl) (Hp.cell mem2 rfl) | exact Yl.load rfl rfl (by kernel_rfl) (Hp.cell mem3 rfl) | exact Yl.load rfl rfl (by kernel_rfl) (Hp.cell mem4 rfl) | exact Yl.load rfl rfl (by kernel_rfl) (Hp.rowAt mem0 (by omega) rfl) | exact Yl.load rfl rfl (by kernel_rfl) (Hp.rowAt mem1 (by omega) rfl) | exact Yl.load rfl rfl (by kernel_rfl) (Hp.rowAt mem2 (by omega) rfl) | exact Yl.load rfl rfl (by kernel_rfl) (Hp.rowAt mem3 (by omega) rfl) | exact Yl.load rfl rfl (by kernel_rfl) (Hp.rowAt mem4 (by omega) rfl)
                refine TL.re (i := 60) (v' := .int .i64 (f G).2.2) rfl rfl ?_
                refine' TL.y rfl rfl rfl ?hy127 ?_
                case hy127 => exact Yl.bin rfl rfl rfl (Bin.lss _ _ _ _)
                refine' TL.y rfl rfl rfl ?hy128 ?_
                case hy128 => exact Yl.pickF rfl rfl rfl
                refine' TL.y rfl rfl rfl ?hy129 ?_
                case hy129 => exact Yl.move rfl rfl
                refine TL.split (i := 63) rfl (fun hs63 => ?_) (fun hs63 => ?_)
                · skip
                  (try simp only [decide_eq_true_eq, decide_eq_false_iff_not, beq_iff_eq, beq_eq_false_iff_ne, bne_iff_ne, ne_eq, bne_eq_false_iff_eq, Bool.not_eq_true', Bool.not_eq_false', Int.not_lt, Int.not_le, gt_iff_lt, ge_iff_le] at hs63)
                  refine TL.skip rfl rfl rfl ?_
                  refine TL.skip rfl rfl rfl ?_
                  refine' TL.y rfl rfl rfl ?hy130 ?_
                  case hy130 => exact Yl.pickT rfl rfl rfl
                  refine TL.nil ?_
                  refine TE.next ?_
                  refine TC.yes rfl rfl ?_
                  refine TC.seq ?_
                  refine TC.region ?_
                  refine' TL.y rfl rfl rfl ?hy131 ?_
                  case hy131 => exact Yl.move rfl rfl
                  refine' TL.y rfl rfl rfl ?hy132 ?_
                  case hy132 => exact Yl.assign rfl rfl
                  refine TL.nil ?_
                  refine TE.next ?_
                  refine TC.ret ?_
                  refine TE.thenRet ?_
                  refine TE.ret1 rfl rfl ?_
                  exact fun w h => ⟨rfl, (h.sub (List.nil_sublist _)).below⟩
                · skip
                  (try simp only [decide_eq_true_eq, decide_eq_false_iff_not, beq_iff_eq, beq_eq_false_iff_ne, bne_iff_ne, ne_eq, bne_eq_false_iff_eq, Bool.not_eq_true', Bool.not_eq_false', Int.not_lt, Int.not_le, gt_iff_lt, ge_iff_le] at hs63)
                  refine' TL.y rfl rfl rfl ?hy133 ?_
                  case hy133 => exact Yl.move rfl rfl
                  refine' TL.y rfl rfl rfl ?hy134 ?_
                  case hy134 => exact Yl.bin rfl rfl rfl (Bin.gtr _ _ _ _)
                  refine' TL.y rfl rfl rfl ?hy135 ?_
                  case hy135 => exact Yl.pickF rfl rfl rfl
                  refine TL.nil ?_
                  refine TE.next ?_
                  refine TC.cond rfl (fun hs66 => ?_) (fun hs66 => ?_)
                  · skip
                    (try simp only [decide_eq_true_eq, decide_eq_false_iff_not, beq_iff_eq, beq_eq_false_iff_ne, bne_iff_ne, ne_eq, bne_eq_false_iff_eq, Bool.not_eq_true', Bool.not_eq_false', Int.not_lt, Int.not_le, gt_iff_lt, ge_iff_le] at hs66)
                    refine TC.seq ?_
                    refine TC.region ?_
                    refine' TL.y rfl rfl rfl ?hy136 ?_
                    case hy136 => exact Yl.move rfl rfl
                    refine' TL.y rfl rfl rfl ?hy137 ?_
                    case hy137 => exact Yl.assign rfl rfl
                    refine TL.nil ?_
                    refine TE.next ?_
                    refine TC.ret ?_
                    refine TE.thenRet ?_
                    refine TE.ret1 rfl rfl ?_
                    exact fun w h => ⟨rfl, (h.sub (List.nil_sublist _)).below⟩
                  · skip
                    (try simp only [decide_eq_true_eq, decide_eq_false_iff_not, beq_iff_eq, beq_eq_false_iff_ne, bne_iff_ne, ne_eq, bne_eq_false_iff_eq, Bool.not_eq_true', Bool.not_eq_false', Int.not_lt, Int.not_le, gt_iff_lt, ge_iff_le] at hs66)
                    have hpt : (f G).1 = t := by first | assumption | omega
                    have h0m : (f G).2.2 ≤ more := by omega
                    have h1m : more ≤ 1099511627776 := by omega
                    have how := hv.ow G hG
                    have hv2 : Vld m (updG f G ((f G).1, (f G).2.1, more)) := hv.upd G (hv.us G hG) (b := more) (by omega)
                    refine TC.skip ?_
                    refine TE.next ?_
                    refine TC.seq ?_
                    refine TC.region ?_
                    refine' TL.y rfl rfl rfl ?hy138 ?_
                    case hy138 => exact Yl.move rfl rfl
                    refine' TL.y rfl rfl rfl ?hy139 ?_
                    case hy139 => exact Yl.move rfl rfl
                    refine' TL.c rfl rfl rfl ?hy140 ?_
                    case hy140 => exact Yc.call rfl Try.func11 (by kernel_rfl) rfl rfl (Hp.news (fun w h => k_eff w (hS.below h.below) (by omega) (hcp) t))
                    intro v70
                    rw [lenE_ok hv ht0 ht1]
                    refine TL.fact (fun w h => h.ownSl mem0) ?_
                    rintro ⟨A70, c70, rfl⟩
                    refine' TL.y rfl rfl rfl ?hy141 ?_
                    case hy141 => exact Yl.assign rfl rfl
                    refine TL.nil ?_
                    refine TE.next ?_
                    refine TC.seq ?_
                    refine TC.wk (fun w h => Hp.nil (e := 38) (size := 3) h) ?_
                    refine TC.region ?_
                    refine' TL.y rfl rfl rfl ?hy142 ?_
                    case hy142 => exact Yl.assign rfl rfl
                    refine TL.nil ?_
                    refine TE.next ?_
                    refine TC.seq ?_
                    refine TC.region ?_
                    refine' TL.y rfl rfl rfl ?hy143 ?_
                    case hy143 => exact Yl.move rfl rfl
                    refine' TL.y rfl rfl rfl ?hy144 ?_
                    case hy144 => exact Yl.move rfl rfl
                    refine' TL.mx rfl rfl rfl ?hy145 ?_
                    case hy145 => exact Ym.appendSl (news := Nw m f) rfl Try.underlying22 (by kernel_rfl) (z := .agg #[.int .i64 0, .int .i64 0, .int .i64 0]) (size := 3) (bytes := 24) rfl (by decide) (by decide) rfl rfl (by rw [Nw_length]) (fun w h => hS.below h.below) Nw_one (by omega) (fun v' => foc0)
                    intro v73
                    simp only [Nat.zero_add, List.nil_append]
                    refine TL.fact (fun w h => h.ownSl mem0) ?_
                    rintro ⟨A73, c73, rfl⟩
                    refine TL.fact (fun w h => h.ownSome' mem0 (by omega)) ?_
                    rintro ⟨g73, rfl⟩
                    refine' TL.y rfl rfl rfl ?hy146 ?_
                    case hy146 => exact Yl.assign rfl rfl
                    refine TL.nil ?_
                    refine TE.next ?_
                    refine TC.seq ?_
                    refine TC.region ?_
                    refine' TL.y rfl rfl rfl ?hy147 ?_
                    case hy147 => exact Yl.move rfl rfl
                    refine' TL.y rfl rfl rfl ?hy148 ?_
                    case hy148 => exact Yl.move rfl rfl
                    refine' TL.y rfl rfl rfl ?hy149 ?_
                    case hy149 => exact Yl.move rfl rfl
                    refine' TL.y rfl rfl rfl ?hy150 ?_
                    case hy150 => exact Yl.ixkn (k := 3) rfl rfl rfl Try.underlying22 (by kernel_rfl) (by omega)
                    refine' TL.y rfl rfl rfl ?hy151 ?_
                    case hy151 => first | exact Yl.field0 (k := 0) 2 rfl rfl Try.underlying38 rfl (by kernel_rfl) rfl | exact Yl.field (k := 0) 2 rfl rfl Try.underlying38 rfl (by kernel_rfl) rfl
                    refine' TL.s rfl rfl ?hy152 ?_
                    case hy152 => exact Ys.nwf (j := G) (i := 2) (nd := ((f G).1, (f G).2.1, more)) rfl rfl rfl (by kernel_rfl) (by omega) foc0 (by omega) (by decide) (by simp [fld, updG]) (by intro k hk hne; rcases (by omega : k = 0 ∨ k = 1 ∨ k = 2) with rfl | rfl | rfl <;> first | (simp [fld, updG]; done) | exact absurd rfl hne)
                    refine TL.nil ?_
                    refine TE.next ?_
                    refine TC.seq ?_
                    refine TC.region ?_
                    refine' TL.y rfl rfl rfl ?hy153 ?_
                    case hy153 => exact Yl.move rfl rfl
                    refine' TL.y rfl rfl rfl ?hy154 ?_
                    case hy154 => exact Yl.move rfl rfl
                    refine' TL.c rfl rfl rfl ?hy155 ?_
                    case hy155 => exact Yc.call rfl Try.func11 (by kernel_rfl) rfl rfl (Hp.news (fun w h => k_eff w (Hp.ownNw mem0 w h) (by omega) (Hp.ownCap mem0 w h) t))
                    intro v81
                    rw [lenE_ok hv2 ht0 ht1]
                    refine TL.fact (fun w h => h.ownSl mem0) ?_
                    rintro ⟨A81, c81, rfl⟩
                    refine TL.fact (fun w h => h.ownSome' mem0 (by omega)) ?_
                    rintro ⟨g81, rfl⟩
                    refine TL.fact (fun w h => h.ownSome' mem2 (by omega)) ?_
                    rintro ⟨g70, rfl⟩
                    refine' TL.y rfl rfl rfl ?hy156 ?_
                    case hy156 => exact Yl.assign rfl rfl
                    refine TL.nil ?_
                    refine TE.next ?_
                    refine TC.seq ?_
                    refine TC.seq ?_
                    refine TC.region ?_
                    refine' TL.y rfl rfl rfl ?hy157 ?_
                    case hy157 => exact Yl.move rfl rfl
                    refine' TL.y rfl rfl rfl ?hy158 ?_
                    case hy158 => exact Yl.len rfl rfl Try.underlying25
                    refine' TL.y rfl rfl rfl ?hy159 ?_
                    case hy159 => exact Yl.move rfl rfl
                    refine' TL.y rfl rfl rfl ?hy160 ?_
                    case hy160 => exact Yl.len rfl rfl Try.underlying22
                    refine' TL.y rfl rfl rfl ?hy161 ?_
                    case hy161 => exact Yl.bin rfl rfl rfl (Bin.neq _ _ _ _)
                    refine' TL.y rfl rfl rfl ?hy162 ?_
                    case hy162 => exact Yl.move rfl rfl
                    refine TL.re (i := 87) (v' := .bool false) rfl (congrArg Value.bool (by simp)) ?_
                    refine' TL.y rfl rfl rfl ?hy163 ?_
                    case hy163 => exact Yl.move rfl rfl
                    refine' TL.y rfl rfl rfl ?hy164 ?_
                    case hy164 => exact Yl.len rfl rfl Try.underlying25
                    refine' TL.y rfl rfl rfl ?hy165 ?_
                    case hy165 => exact Yl.move rfl rfl
                    refine' TL.y rfl rfl rfl ?hy166 ?_
                    case hy166 => exact Yl.len rfl rfl Try.underlying22
                    refine' TL.y rfl rfl rfl ?hy167 ?_
                    case hy167 => exact Yl.bin rfl rfl rfl (Bin.neq _ _ _ _)
                    refine' TL.y rfl rfl rfl ?hy168 ?_
                    case hy168 => exact Yl.pickF rfl rfl rfl
                    refine TL.nil ?_
                    refine TE.next ?_
                    refine TC.no rfl (by simp) ?_
                    refine TC.skip ?_
                    refine TE.next ?_
                    refine TC.seq ?_
                    refine TC.seq ?_
                    refine TC.region ?_
                    refine' TL.y rfl rfl rfl ?hy169 ?_
                    case hy169 => exact Yl.assign rfl rfl
                    refine TL.nil ?_
                    refine TE.next ?_
                    refine TC.block ?_
                    refine TC.loop (σ := Nat) (fun i => [(0, .slice (some ⟨b, o, none⟩) m cp), (1, .int .i64 t), (2, .int .i64 (G : Int)), (3, .int .i64 more), (9, .bool true), (10, .slice (some ⟨g70, 0, none⟩) m c70), (12, .slice (some ⟨g81, 0, none⟩) m c81), (13, .int .i64 (i : Int))]) (fun i => Hp W (fun _ => False) [ownR 3 1 (.slice (some ⟨g81, 0, none⟩) m c81) (m) (Vw (m) (effV m (updG f G ((f G).1, (f G).2.1, more)) t)), ownR 38 3 (.slice (some ⟨g73, 0, none⟩) m c73) (m) (Nw (m) (updG f G ((f G).1, (f G).2.1, more))), ownR 3 1 (.slice (some ⟨g70, 0, none⟩) m c70) (m) (Vw (m) (effV m f t))]) (fun i => i ≤ m) (fun i => m - i) 0 ?hF170 ?hs170 ?hm170 ?round170
                    case hF170 => exact Nat.zero_le _
                    case hs170 => exact ⟨rfl, rfl, rfl, rfl, rfl, rfl, rfl, rfl, trivial⟩
                    case hm170 => exact fun _ h => h
                    case round170 =>
                      intro i hi
                      refine TC.seq ?_
                      refine TC.seq ?_
                      refine TC.region ?_
                      refine' TL.y rfl rfl rfl ?hy171 ?_
                      case hy171 => exact Yl.move rfl rfl
                      refine' TL.y rfl rfl rfl ?hy172 ?_
                      case hy172 => exact Yl.move rfl rfl
                      refine' TL.y rfl rfl rfl ?hy173 ?_
                      case hy173 => exact Yl.len rfl rfl Try.underlying22
                      refine' TL.y rfl rfl rfl ?hy174 ?_
                      case hy174 => exact Yl.bin rfl rfl rfl (Bin.lss _ _ _ _)
                      refine TL.nil ?_
                      refine TE.next ?_
                      refine TC.cond rfl (fun hs97 => ?_) (fun hs97 => ?_)
                      · skip
                        (try simp only [decide_eq_true_eq, decide_eq_false_iff_not, beq_iff_eq, beq_eq_false_iff_ne, bne_iff_ne, ne_eq, bne_eq_false_iff_eq, Bool.not_eq_true', Bool.not_eq_false', Int.not_lt, Int.not_le, gt_iff_lt, ge_iff_le] at hs97)
                        have hml := more_le hv ht0 hG hpt h0m h1m i (by omega)
                        refine TC.skip ?_
                        refine TE.next ?_
                        refine TC.seq ?_
                        refine TC.block ?_
                        refine TC.seq ?_
                        refine TC.draw (k := 9) _ [] #[false, false, false, false, false, false, false, false, false] (by kernel_rfl) rfl rfl (fun _ h => h.drew) (fun _ h => h) ?_
                        refine' TA.y (i := 0) #[true, false, false, false, false, false, false, false, false] rfl rfl rfl (by kernel_rfl) (fun _ _ _ h => h) (fun _ h => by exact Hp.sub h (by repeat (first | exact List.Sublist.refl _ | apply List.Sublist.cons))) rfl ?hy175 ?_
                        case hy175 => exact Yl.move rfl rfl
                        refine' TA.y (i := 1) #[true, true, false, false, false, false, false, false, false] rfl rfl rfl (by kernel_rfl) (fun _ _ _ h => h) (fun _ h => by exact Hp.sub h (by repeat (first | exact List.Sublist.refl _ | apply List.Sublist.cons))) rfl ?hy176 ?_
                        case hy176 => exact Yl.move rfl rfl
                        refine' TA.y (i := 2) #[true, true, true, false, false, false, false, false, false] rfl rfl rfl (by kernel_rfl) (fun _ _ _ h => h) (fun _ h => by exact Hp.sub h (by repeat (first | exact List.Sublist.refl _ | apply List.Sublist.cons))) rfl ?hy177 ?_
                        case hy177 => first | exact Yl.ixn rfl rfl rfl Try.underlying25 (by kernel_rfl) (by omega) | exact Yl.ixz rfl rfl rfl Try.underlying25 (by kernel_rfl) (by omega) (by omega) | exact Yl.ixcn rfl rfl rfl Try.underlying25 (by kernel_rfl) (by omega) | exact Yl.ixcz rfl rfl rfl Try.underlying25 (by kernel_rfl) (by omega) (by omega)
                        refine' TA.y (i := 3) #[true, true, true, true, false, false, false, false, false] rfl rfl rfl (by kernel_rfl) (fun _ _ _ h => h) (fun _ h => by exact Hp.sub h (by repeat (first | exact List.Sublist.refl _ | apply List.Sublist.cons))) rfl ?hy178 ?_
                        case hy178 => first | exact Yl.load rfl rfl (by kernel_rfl) (Hp.vw mem0 (by omega)) | exact Yl.load rfl rfl (by kernel_rfl) (Hp.vw mem1 (by omega)) | exact Yl.load rfl rfl (by kernel_rfl) (Hp.vw mem2 (by omega)) | exact Yl.load rfl rfl (by kernel_rfl) (Sl.nw hS (i := 0) rfl (by omega) (by decide)) | exact Yl.load rfl rfl (by kernel_rfl) (Sl.nw hS (i := 1) rfl (by omega) (by decide)) | exact Yl.load rfl rfl (by kernel_rfl) (Sl.nw hS (i := 2) rfl (by omega) (by decide)) | exact Yl.load rfl rfl (by kernel_rfl) (Hp.cell mem0 rfl) | exact Yl.load rfl rfl (by kernel_rfl) (Hp.cell mem1 rfl) | exact Yl.load rfl rfl (by kernel_rfl) (Hp.cell mem2 rfl) | exact Yl.load rfl rfl (by kernel_rfl) (Hp.cell mem3 rfl) | exact Yl.load rfl rfl (by kernel_rfl) (Hp.cell mem4 rfl) | exact Yl.load rfl rfl (by kernel_rfl) (Hp.rowAt mem0 (by omega) rfl) | exact Yl.load rfl rfl (by kernel_rfl) (Hp.rowAt mem1 (by omega) rfl) | exact Yl.load rfl rfl (by kernel_rfl) (Hp.rowAt mem2 (by omega) rfl) | exact Yl.load rfl rfl (by kernel_rfl) (Hp.rowAt mem3 (by omega) rfl) | exact Yl.load rfl rfl (by kernel_rfl) (Hp.rowAt mem4 (by omega) rfl)
                        refine' TA.y (i := 4) #[true, true, true, true, true, false, false, false, false] rfl rfl rfl (by kernel_rfl) (fun _ _ _ h => h) (fun _ h => by exact Hp.sub h (by repeat (first | exact List.Sublist.refl _ | apply List.Sublist.cons))) rfl ?hy179 ?_
                        case hy179 => exact Yl.move rfl rfl
                        refine' TA.y (i := 5) #[true, true, true, true, true, true, false, false, false] rfl rfl rfl (by kernel_rfl) (fun _ _ _ h => h) (fun _ h => by exact Hp.sub h (by repeat (first | exact List.Sublist.refl _ | apply List.Sublist.cons))) rfl ?hy180 ?_
                        case hy180 => exact Yl.move rfl rfl
                        refine' TA.y (i := 6) #[true, true, true, true, true, true, true, false, false] rfl rfl rfl (by kernel_rfl) (fun _ _ _ h => h) (fun _ h => by exact Hp.sub h (by repeat (first | exact List.Sublist.refl _ | apply List.Sublist.cons))) rfl ?hy181 ?_
                        case hy181 => first | exact Yl.ixn rfl rfl rfl Try.underlying25 (by kernel_rfl) (by omega) | exact Yl.ixz rfl rfl rfl Try.underlying25 (by kernel_rfl) (by omega) (by omega) | exact Yl.ixcn rfl rfl rfl Try.underlying25 (by kernel_rfl) (by omega) | exact Yl.ixcz rfl rfl rfl Try.underlying25 (by kernel_rfl) (by omega) (by omega)
                        refine' TA.y (i := 7) #[true, true, true, true, true, true, true, true, false] rfl rfl rfl (by kernel_rfl) (fun _ _ _ h => h) (fun _ h => by exact Hp.sub h (by repeat (first | exact List.Sublist.refl _ | apply List.Sublist.cons))) rfl ?hy182 ?_
                        case hy182 => first | exact Yl.load rfl rfl (by kernel_rfl) (Hp.vw mem0 (by omega)) | exact Yl.load rfl rfl (by kernel_rfl) (Hp.vw mem1 (by omega)) | exact Yl.load rfl rfl (by kernel_rfl) (Hp.vw mem2 (by omega)) | exact Yl.load rfl rfl (by kernel_rfl) (Sl.nw hS (i := 0) rfl (by omega) (by decide)) | exact Yl.load rfl rfl (by kernel_rfl) (Sl.nw hS (i := 1) rfl (by omega) (by decide)) | exact Yl.load rfl rfl (by kernel_rfl) (Sl.nw hS (i := 2) rfl (by omega) (by decide)) | exact Yl.load rfl rfl (by kernel_rfl) (Hp.cell mem0 rfl) | exact Yl.load rfl rfl (by kernel_rfl) (Hp.cell mem1 rfl) | exact Yl.load rfl rfl (by kernel_rfl) (Hp.cell mem2 rfl) | exact Yl.load rfl rfl (by kernel_rfl) (Hp.cell mem3 rfl) | exact Yl.load rfl rfl (by kernel_rfl) (Hp.cell mem4 rfl) | exact Yl.load rfl rfl (by kernel_rfl) (Hp.rowAt mem0 (by omega) rfl) | exact Yl.load rfl rfl (by kernel_rfl) (Hp.rowAt mem1 (by omega) rfl) | exact Yl.load rfl rfl (by kernel_rfl) (Hp.rowAt mem2 (by omega) rfl) | exact Yl.load rfl rfl (by kernel_rfl) (Hp.rowAt mem3 (by omega) rfl) | exact Yl.load rfl rfl (by kernel_rfl) (Hp.rowAt mem4 (by omega) rfl)
                        refine' TA.y (i := 8) #[true, true, true, true, true, true, true, true, true] rfl rfl rfl (by kernel_rfl) (fun _ _ _ h => h) (fun _ h => by exact Hp.sub h (by repeat (first | exact List.Sublist.refl _ | apply List.Sublist.cons))) rfl ?hy183 ?_
                        case hy183 => exact Yl.bin rfl rfl rfl (Bin.lss _ _ _ _)
                        refine TA.done (by kernel_rfl) ?_
                        refine TE.next ?_
                        refine TC.no rfl (decide_eq_false (by omega)) ?_
                        refine TC.skip ?_
                        refine TE.inNormal ?_
                        refine TE.next ?_
                        refine TC.region ?_
                        refine' TL.y rfl rfl rfl ?hy184 ?_
                        case hy184 => exact Yl.move rfl rfl
                        refine' TL.y rfl rfl rfl ?hy185 ?_
                        case hy185 => first | (refine Yl.val (Yl.bin rfl rfl rfl (Bin.add _ _ _ _)) (congrArg (Value.int .i64) (i64in ?_ ?_)) <;> omega) | exact Yl.bin rfl rfl rfl (Bin.add _ _ _ _)
                        refine' TL.y rfl rfl rfl ?hy186 ?_
                        case hy186 => exact Yl.assign rfl rfl
                        refine TL.nil ?_
                        refine TE.round (i + 1) ?hF187 ?hlt187 ?hs187 ?hm187
                        case hF187 => omega
                        case hlt187 => omega
                        case hs187 => exact ⟨rfl, rfl, rfl, rfl, rfl, rfl, rfl, rfl, trivial⟩
                        case hm187 => exact fun _ h => h
                      · skip
                        (try simp only [decide_eq_true_eq, decide_eq_false_iff_not, beq_iff_eq, beq_eq_false_iff_ne, bne_iff_ne, ne_eq, bne_eq_false_iff_eq, Bool.not_eq_true', Bool.not_eq_false', Int.not_lt, Int.not_le, gt_iff_lt, ge_iff_le] at hs97)
                        refine TC.exit ?_
                        refine TE.thenExit ?_
                        refine TE.thenExit ?_
                        refine TE.inHere ?_
                        refine TE.next ?_
                        refine TC.seq ?_
                        refine TC.draw (k := 16) _ [] #[false, false, false, false, false, false, false, false, false, false, false, false, false, false, false, false] (by kernel_rfl) rfl rfl (fun _ h => h.drew) (fun _ h => h) ?_
                        refine' TA.y (i := 0) #[true, false, false, false, false, false, false, false, false, false, false, false, false, false, false, false] rfl rfl rfl (by kernel_rfl) (fun _ _ _ h => h) (fun _ h => by exact Hp.sub h (by repeat (first | exact List.Sublist.refl _ | apply List.Sublist.cons))) rfl ?hy188 ?_
                        case hy188 => exact Yl.move rfl rfl
                        refine' TA.y (i := 1) #[true, true, false, false, false, false, false, false, false, false, false, false, false, false, false, false] rfl rfl rfl (by kernel_rfl) (fun _ _ _ h => h) (fun _ h => by exact Hp.sub h (by repeat (first | exact List.Sublist.refl _ | apply List.Sublist.cons))) rfl ?hy189 ?_
                        case hy189 => exact Yl.move rfl rfl
                        refine' TA.y (i := 2) #[true, true, true, false, false, false, false, false, false, false, false, false, false, false, false, false] rfl rfl rfl (by kernel_rfl) (fun _ _ _ h => h) (fun _ h => by exact Hp.sub h (by repeat (first | exact List.Sublist.refl _ | apply List.Sublist.cons))) rfl ?hy190 ?_
                        case hy190 => exact Yl.move rfl rfl
                        refine' TA.y (i := 3) #[true, true, true, true, false, false, false, false, false, false, false, false, false, false, false, false] rfl rfl rfl (by kernel_rfl) (fun _ _ _ h => h) (fun _ h => by exact Hp.sub h (by repeat (first | exact List.Sublist.refl _ | apply List.Sublist.cons))) rfl ?hy191 ?_
                        case hy191 => exact Yl.move rfl rfl
                        refine' TA.y (i := 4) #[true, true, true, true, true, false, false, false, false, false, false, false, false, false, false, false] rfl rfl rfl (by kernel_rfl) (fun _ _ _ h => h) (fun _ h => by exact Hp.sub h (by repeat (first | exact List.Sublist.refl _ | apply List.Sublist.cons))) rfl ?hy192 ?_
                        case hy192 => first | exact Yl.ixn rfl rfl rfl Try.underlying25 (by kernel_rfl) (by omega) | exact Yl.ixz rfl rfl rfl Try.underlying25 (by kernel_rfl) (by omega) (by omega) | exact Yl.ixcn rfl rfl rfl Try.underlying25 (by kernel_rfl) (by omega) | exact Yl.ixcz rfl rfl rfl Try.underlying25 (by kernel_rfl) (by omega) (by omega)
                        refine' TA.y (i := 5) #[true, true, true, true, true, true, false, false, false, false, false, false, false, false, false, false] rfl rfl rfl (by kernel_rfl) (fun _ _ _ h => h) (fun _ h => by exact Hp.sub h (by repeat (first | exact List.Sublist.refl _ | apply List.Sublist.cons))) rfl ?hy193 ?_
                        case hy193 => first | exact Yl.load rfl rfl (by kernel_rfl) (Hp.vw mem0 (by omega)) | exact Yl.load rfl rfl (by kernel_rfl) (Hp.vw mem1 (by omega)) | exact Yl.load rfl rfl (by kernel_rfl) (Hp.vw mem2 (by omega)) | exact Yl.load rfl rfl (by kernel_rfl) (Sl.nw hS (i := 0) rfl (by omega) (by decide)) | exact Yl.load rfl rfl (by kernel_rfl) (Sl.nw hS (i := 1) rfl (by omega) (by decide)) | exact Yl.load rfl rfl (by kernel_rfl) (Sl.nw hS (i := 2) rfl (by omega) (by decide)) | exact Yl.load rfl rfl (by kernel_rfl) (Hp.cell mem0 rfl) | exact Yl.load rfl rfl (by kernel_rfl) (Hp.cell mem1 rfl) | exact Yl.load rfl rfl (by kernel_rfl) (Hp.cell mem2 rfl) | exact Yl.load rfl rfl (by kernel_rfl) (Hp.cell mem3 rfl) | exact Yl.load rfl rfl (by kernel_rfl) (Hp.cell mem4 rfl) | exact Yl.load rfl rfl (by kernel_rfl) (Hp.rowAt mem0 (by omega) rfl) | exact Yl.load rfl rfl (by kernel_rfl) (Hp.rowAt mem1 (by omega) rfl) | exact Yl.load rfl rfl (by kernel_rfl) (Hp.rowAt mem2 (by omega) rfl) | exact Yl.load rfl rfl (by kernel_rfl) (Hp.rowAt mem3 (by omega) rfl) | exact Yl.load rfl rfl (by kernel_rfl) (Hp.rowAt mem4 (by omega) rfl)
                        refine' TA.y (i := 6) #[true, true, true, true, true, true, true, false, false, false, false, false, false, false, false, false] rfl rfl rfl (by kernel_rfl) (fun _ _ _ h => h) (fun _ h => by exact Hp.sub h (by repeat (first | exact List.Sublist.refl _ | apply List.Sublist.cons))) rfl ?hy194 ?_
                        case hy194 => exact Yl.move rfl rfl
                        refine' TA.y (i := 7) #[true, true, true, true, true, true, true, true, false, false, false, false, false, false, false, false] rfl rfl rfl (by kernel_rfl) (fun _ _ _ h => h) (fun _ h => by exact Hp.sub h (by repeat (first | exact List.Sublist.refl _ | apply List.Sublist.cons))) rfl ?hy195 ?_
                        case hy195 => exact Yl.move rfl rfl
                        refine' TA.y (i := 8) #[true, true, true, true, true, true, true, true, true, false, false, false, false, false, false, false] rfl rfl rfl (by kernel_rfl) (fun _ _ _ h => h) (fun _ h => by exact Hp.sub h (by repeat (first | exact List.Sublist.refl _ | apply List.Sublist.cons))) rfl ?hy196 ?_
                        case hy196 => exact Yl.move rfl rfl
                        refine' TA.y (i := 9) #[true, true, true, true, true, true, true, true, true, true, false, false, false, false, false, false] rfl rfl rfl (by kernel_rfl) (fun _ _ _ h => h) (fun _ h => by exact Hp.sub h (by repeat (first | exact List.Sublist.refl _ | apply List.Sublist.cons))) rfl ?hy197 ?_
                        case hy197 => exact Yl.ixkn (k := 3) rfl rfl rfl Try.underlying22 (by kernel_rfl) (by omega)
                        refine' TA.y (i := 10) #[true, true, true, true, true, true, true, true, true, true, true, false, false, false, false, false] rfl rfl rfl (by kernel_rfl) (fun _ _ _ h => h) (fun _ h => by exact Hp.sub h (by repeat (first | exact List.Sublist.refl _ | apply List.Sublist.cons))) rfl ?hy198 ?_
                        case hy198 => first | exact Yl.field0 (k := 0) 1 rfl rfl Try.underlying38 rfl (by kernel_rfl) rfl | exact Yl.field (k := 0) 1 rfl rfl Try.underlying38 rfl (by kernel_rfl) rfl
                        refine' TA.y (i := 11) #[true, true, true, true, true, true, true, true, true, true, true, true, false, false, false, false] rfl rfl rfl (by kernel_rfl) (fun _ _ _ h => h) (fun _ h => by exact Hp.sub h (by repeat (first | exact List.Sublist.refl _ | apply List.Sublist.cons))) rfl ?hy199 ?_
                        case hy199 => first | exact Yl.load rfl rfl (by kernel_rfl) (Hp.vw mem0 (by omega)) | exact Yl.load rfl rfl (by kernel_rfl) (Hp.vw mem1 (by omega)) | exact Yl.load rfl rfl (by kernel_rfl) (Hp.vw mem2 (by omega)) | exact Yl.load rfl rfl (by kernel_rfl) (Sl.nw hS (i := 0) rfl (by omega) (by decide)) | exact Yl.load rfl rfl (by kernel_rfl) (Sl.nw hS (i := 1) rfl (by omega) (by decide)) | exact Yl.load rfl rfl (by kernel_rfl) (Sl.nw hS (i := 2) rfl (by omega) (by decide)) | exact Yl.load rfl rfl (by kernel_rfl) (Hp.cell mem0 rfl) | exact Yl.load rfl rfl (by kernel_rfl) (Hp.cell mem1 rfl) | exact Yl.load rfl rfl (by kernel_rfl) (Hp.cell mem2 rfl) | exact Yl.load rfl rfl (by kernel_rfl) (Hp.cell mem3 rfl) | exact Yl.load rfl rfl (by kernel_rfl) (Hp.cell mem4 rfl) | exact Yl.load rfl rfl (by kernel_rfl) (Hp.rowAt mem0 (by omega) rfl) | exact Yl.load rfl rfl (by kernel_rfl) (Hp.rowAt mem1 (by omega) rfl) | exact Yl.load rfl rfl (by kernel_rfl) (Hp.rowAt mem2 (by omega) rfl) | exact Yl.load rfl rfl (by kernel_rfl) (Hp.rowAt mem3 (by omega) rfl) | exact Yl.load rfl rfl (by kernel_rfl) (Hp.rowAt mem4 (by omega) rfl)
                        refine TA.re (i := 120) (v' := .int .i64 (f G).2.1) rfl rfl ?_
                        refine' TA.y (i := 12) #[true, true, true, true, true, true, true, true, true, true, true, true, true, false, false, false] rfl rfl rfl (by kernel_rfl) (fun _ _ _ h => h) (fun _ h => by exact Hp.sub h (by repeat (first | exact List.Sublist.refl _ | apply List.Sublist.cons))) rfl ?hy200 ?_
                        case hy200 => exact Yl.min rfl rfl rfl
                        refine' TA.y (i := 13) #[true, true, true, true, true, true, true, true, true, true, true, true, true, true, false, false] rfl rfl rfl (by kernel_rfl) (fun _ _ _ h => h) (fun _ h => by exact Hp.sub h (by repeat (first | exact List.Sublist.refl _ | apply List.Sublist.cons))) rfl ?hy201 ?_
                        case hy201 => exact Yl.bin rfl rfl rfl (Bin.eql _ _ _ _)
                        refine' TA.y (i := 14) #[true, true, true, true, true, true, true, true, true, true, true, true, true, true, true, false] rfl rfl rfl (by kernel_rfl) (fun _ _ _ h => h) (fun _ h => by exact Hp.sub h (by repeat (first | exact List.Sublist.refl _ | apply List.Sublist.cons))) rfl ?hy202 ?_
                        case hy202 => exact Yl.pickT rfl rfl rfl
                        refine' TA.y (i := 15) #[true, true, true, true, true, true, true, true, true, true, true, true, true, true, true, true] rfl rfl rfl (by kernel_rfl) (fun _ _ _ h => h) (fun _ h => by exact Hp.sub h (by repeat (first | exact List.Sublist.refl _ | apply List.Sublist.cons))) rfl ?hy203 ?_
                        case hy203 => exact Yl.assign rfl rfl
                        refine TA.done (by kernel_rfl) ?_
                        refine TE.next ?_
                        refine TC.ret ?_
                        refine TE.ret1 rfl rfl ?_
                        exact fun w h => ⟨by rw [more_is hv ht0 hG hpt h0m h1m]; simp, (h.sub (List.nil_sublist _)).below⟩
end Go.Proofs.Ytipdpmmjmlimhaa.Pk
