/- Held, over. -/
import Derived.Test.YtipdpmmjmlimhaaPrW
import Derived.Test.YtipdpmmjmlimhaaProg
import Derived.RowKit3
namespace Go.Proofs.Ytipdpmmjmlimhaa.Pk
open Go Go.RowKit Go.Proofs.Ytipdpmmjmlimhaa.HL Go.Proofs.Ytipdpmmjmlimhaa.Ev Go.Proofs.YtipdpmmjmlimhaaW.PrintWords Go.Proofs.PrP Go.Proofs.DvP
set_option linter.unusedVariables false
set_option linter.unusedSimpArgs false
attribute [local irreducible] upR nU Nw Vw blV sumC sumK heldV
set_option maxRecDepth 100000 in
set_option maxHeartbeats 2000000 in
theorem law_held (W : World) {m : Nat} {f : Nat → Nd} {A : Option Addr} {cp : Nat} (hS : Sl W A (Nw m f)) (hm : m ≤ 9223372036854775807) (hcp : m ≤ cp) {k : Nat} {ef : Nat → Int} {B : Option Addr} {cq : Nat} (hS2 : Sl W B (Vw k ef)) (hk : k ≤ 9223372036854775807) (t g : Int) : Calls Try.prog 4 #[.slice A m cp, .slice B k cq, .int .i64 t, .int .i64 g] W fun e w' => e = .returned (.bool true) ∧ Below W.heap.size W w' := by
  have hM : Hp W (fun _ => False) [] W := Hp.start
  refine TC.enter (n := 71) Try.func4 rfl rfl rfl hM ?_
  refine TC.seq ?_
  refine TC.region ?_
  refine' TL.y rfl rfl rfl ?hy1 ?_
  case hy1 => exact Yl.assign rfl rfl
  refine TL.nil ?_
  refine TE.next ?_
  refine TC.seq ?_
  refine TC.region ?_
  refine' TL.c rfl rfl rfl ?hy2 ?_
  case hy2 => exact Yc.call rfl Try.func9 (by kernel_rfl) rfl rfl (Hp.calls (fun w h => k_works w))
  intro _
  refine' TL.y rfl rfl rfl ?hy3 ?_
  case hy3 => exact Yl.assign rfl rfl
  refine TL.nil ?_
  refine TE.next ?_
  refine TC.seq ?_
  refine TC.seq ?_
  refine TC.region ?_
  refine' TL.y rfl rfl rfl ?hy4 ?_
  case hy4 => exact Yl.move rfl rfl
  refine' TL.y rfl rfl rfl ?hy5 ?_
  case hy5 => exact Yl.not rfl rfl
  refine TL.nil ?_
  refine TE.next ?_
  refine TC.no rfl rfl ?_
  refine TC.skip ?_
  refine TE.next ?_
  refine TC.seq ?_
  refine TC.seq ?_
  refine TC.region ?_
  refine' TL.y rfl rfl rfl ?hy6 ?_
  case hy6 => exact Yl.move rfl rfl
  refine' TL.y rfl rfl rfl ?hy7 ?_
  case hy7 => exact Yl.len rfl rfl Try.underlying22
  refine' TL.y rfl rfl rfl ?hy8 ?_
  case hy8 => exact Yl.bin rfl rfl rfl (Bin.gtr _ _ _ _)
  refine' TL.y rfl rfl rfl ?hy9 ?_
  case hy9 => exact Yl.move rfl rfl
  refine TL.split (i := 18) rfl (fun hs18 => ?_) (fun hs18 => ?_)
  · skip
    (try simp only [decide_eq_true_eq, decide_eq_false_iff_not, beq_iff_eq, beq_eq_false_iff_ne, bne_iff_ne, ne_eq, bne_eq_false_iff_eq, Bool.not_eq_true', Bool.not_eq_false', Int.not_lt, Int.not_le, gt_iff_lt, ge_iff_le] at hs18)
    refine TL.skip rfl rfl rfl ?_
    refine TL.skip rfl rfl rfl ?_
    refine TL.skip rfl rfl rfl ?_
    refine' TL.y rfl rfl rfl ?hy10 ?_
    case hy10 => exact Yl.pickT rfl rfl rfl
    refine TL.nil ?_
    refine TE.next ?_
    refine TC.yes rfl rfl ?_
    refine TC.seq ?_
    refine TC.region ?_
    refine' TL.y rfl rfl rfl ?hy11 ?_
    case hy11 => exact Yl.move rfl rfl
    refine' TL.y rfl rfl rfl ?hy12 ?_
    case hy12 => exact Yl.assign rfl rfl
    refine TL.nil ?_
    refine TE.next ?_
    refine TC.ret ?_
    refine TE.thenRet ?_
    refine TE.ret1 rfl rfl ?_
    exact fun w h => ⟨rfl, (h.sub (List.nil_sublist _)).below⟩
  · skip
    (try simp only [decide_eq_true_eq, decide_eq_false_iff_not, beq_iff_eq, beq_eq_false_iff_ne, bne_iff_ne, ne_eq, bne_eq_false_iff_eq, Bool.not_eq_true', Bool.not_eq_false', Int.not_lt, Int.not_le, gt_iff_lt, ge_iff_le] at hs18)
    refine' TL.y rfl rfl rfl ?hy13 ?_
    case hy13 => exact Yl.move rfl rfl
    refine' TL.y rfl rfl rfl ?hy14 ?_
    case hy14 => exact Yl.len rfl rfl Try.underlying25
    refine' TL.y rfl rfl rfl ?hy15 ?_
    case hy15 => exact Yl.bin rfl rfl rfl (Bin.gtr _ _ _ _)
    refine' TL.y rfl rfl rfl ?hy16 ?_
    case hy16 => exact Yl.pickF rfl rfl rfl
    refine TL.nil ?_
    refine TE.next ?_
    refine TC.cond rfl (fun hs22 => ?_) (fun hs22 => ?_)
    · skip
      (try simp only [decide_eq_true_eq, decide_eq_false_iff_not, beq_iff_eq, beq_eq_false_iff_ne, bne_iff_ne, ne_eq, bne_eq_false_iff_eq, Bool.not_eq_true', Bool.not_eq_false', Int.not_lt, Int.not_le, gt_iff_lt, ge_iff_le] at hs22)
      refine TC.seq ?_
      refine TC.region ?_
      refine' TL.y rfl rfl rfl ?hy17 ?_
      case hy17 => exact Yl.move rfl rfl
      refine' TL.y rfl rfl rfl ?hy18 ?_
      case hy18 => exact Yl.assign rfl rfl
      refine TL.nil ?_
      refine TE.next ?_
      refine TC.ret ?_
      refine TE.thenRet ?_
      refine TE.ret1 rfl rfl ?_
      exact fun w h => ⟨rfl, (h.sub (List.nil_sublist _)).below⟩
    · skip
      (try simp only [decide_eq_true_eq, decide_eq_false_iff_not, beq_iff_eq, beq_eq_false_iff_ne, bne_iff_ne, ne_eq, bne_eq_false_iff_eq, Bool.not_eq_true', Bool.not_eq_false', Int.not_lt, Int.not_le, gt_iff_lt, ge_iff_le] at hs22)
      refine TC.skip ?_
      refine TE.next ?_
      refine TC.seq ?_
      refine TC.seq ?_
      refine TC.region ?_
      refine' TL.y rfl rfl rfl ?hy19 ?_
      case hy19 => exact Yl.assign rfl rfl
      refine TL.nil ?_
      refine TE.next ?_
      refine TC.block ?_
      refine TC.loop (σ := Nat) (fun i => [(0, .slice A m cp), (1, .slice B k cq), (2, .int .i64 t), (3, .int .i64 g), (9, .bool true), (10, .int .i64 (i : Int))]) (fun i => Hp W (fun _ => False) []) (fun i => i ≤ k ∧ ∀ j, j < i → 0 ≤ ef j ∧ ef j ≤ 2199023255552) (fun i => k - i) 0 ?hF20 ?hs20 ?hm20 ?round20
      case hF20 => exact ⟨Nat.zero_le _, fun j hj => by omega⟩
      case hs20 => exact ⟨rfl, rfl, rfl, rfl, rfl, rfl, trivial⟩
      case hm20 => exact fun _ h => h
      case round20 =>
        rintro i ⟨hi, hF⟩
        refine TC.seq ?_
        refine TC.seq ?_
        refine TC.region ?_
        refine' TL.y rfl rfl rfl ?hy21 ?_
        case hy21 => exact Yl.move rfl rfl
        refine' TL.y rfl rfl rfl ?hy22 ?_
        case hy22 => exact Yl.move rfl rfl
        refine' TL.y rfl rfl rfl ?hy23 ?_
        case hy23 => exact Yl.len rfl rfl Try.underlying25
        refine' TL.y rfl rfl rfl ?hy24 ?_
        case hy24 => exact Yl.bin rfl rfl rfl (Bin.lss _ _ _ _)
        refine TL.nil ?_
        refine TE.next ?_
        refine TC.cond rfl (fun hs27 => ?_) (fun hs27 => ?_)
        · skip
          (try simp only [decide_eq_true_eq, decide_eq_false_iff_not, beq_iff_eq, beq_eq_false_iff_ne, bne_iff_ne, ne_eq, bne_eq_false_iff_eq, Bool.not_eq_true', Bool.not_eq_false', Int.not_lt, Int.not_le, gt_iff_lt, ge_iff_le] at hs27)
          obtain ⟨b2, o2, rfl⟩ := Sl.some2 hS2 (by rw [Vw_length]; omega)
          refine TC.skip ?_
          refine TE.next ?_
          refine TC.seq ?_
          refine TC.block ?_
          refine TC.seq ?_
          refine TC.region ?_
          refine' TL.y rfl rfl rfl ?hy25 ?_
          case hy25 => exact Yl.move rfl rfl
          refine' TL.y rfl rfl rfl ?hy26 ?_
          case hy26 => exact Yl.move rfl rfl
          refine' TL.y rfl rfl rfl ?hy27 ?_
          case hy27 => first | exact Yl.ixn rfl rfl rfl Try.underlying25 (by kernel_rfl) (by omega) | exact Yl.ixz rfl rfl rfl Try.underlying25 (by kernel_rfl) (by omega) (by omega) | exact Yl.ixcn rfl rfl rfl Try.underlying25 (by kernel_rfl) (by omega) | exact Yl.ixcz rfl rfl rfl Try.underlying25 (by kernel_rfl) (by omega) (by omega)
          refine' TL.y rfl rfl rfl ?hy28 ?_
          case hy28 => first | exact Yl.load rfl rfl (by kernel_rfl) (Sl.vw hS2 rfl (by omega) (fun _ h => h)) | exact Yl.load rfl rfl (by kernel_rfl) (Hp.cell mem0 rfl) | exact Yl.load rfl rfl (by kernel_rfl) (Hp.cell mem1 rfl) | exact Yl.load rfl rfl (by kernel_rfl) (Hp.cell mem2 rfl) | exact Yl.load rfl rfl (by kernel_rfl) (Hp.cell mem3 rfl) | exact Yl.load rfl rfl (by kernel_rfl) (Hp.cell mem4 rfl) | exact Yl.load rfl rfl (by kernel_rfl) (Hp.rowAt mem0 (by omega) rfl) | exact Yl.load rfl rfl (by kernel_rfl) (Hp.rowAt mem1 (by omega) rfl) | exact Yl.load rfl rfl (by kernel_rfl) (Hp.rowAt mem2 (by omega) rfl) | exact Yl.load rfl rfl (by kernel_rfl) (Hp.rowAt mem3 (by omega) rfl) | exact Yl.load rfl rfl (by kernel_rfl) (Hp.rowAt mem4 (by omega) rfl)
          refine' TL.y rfl rfl rfl ?hy29 ?_
          case hy29 => exact Yl.bin rfl rfl rfl (Bin.lss _ _ _ _)
          refine' TL.y rfl rfl rfl ?hy30 ?_
          case hy30 => exact Yl.move rfl rfl
          refine TL.split (i := 35) rfl (fun hs35 => ?_) (fun hs35 => ?_)
          · skip
            (try simp only [decide_eq_true_eq, decide_eq_false_iff_not, beq_iff_eq, beq_eq_false_iff_ne, bne_iff_ne, ne_eq, bne_eq_false_iff_eq, Bool.not_eq_true', Bool.not_eq_false', Int.not_lt, Int.not_le, gt_iff_lt, ge_iff_le] at hs35)
            refine TL.skip rfl rfl rfl ?_
            refine TL.skip rfl rfl rfl ?_
            refine TL.skip rfl rfl rfl ?_
            refine TL.skip rfl rfl rfl ?_
            refine TL.skip rfl rfl rfl ?_
            refine' TL.y rfl rfl rfl ?hy31 ?_
            case hy31 => exact Yl.pickT rfl rfl rfl
            refine TL.nil ?_
            refine TE.next ?_
            refine TC.yes rfl rfl ?_
            refine TC.seq ?_
            refine TC.region ?_
            refine' TL.y rfl rfl rfl ?hy32 ?_
            case hy32 => exact Yl.move rfl rfl
            refine' TL.y rfl rfl rfl ?hy33 ?_
            case hy33 => exact Yl.assign rfl rfl
            refine TL.nil ?_
            refine TE.next ?_
            refine TC.ret ?_
            refine TE.inRet ?_
            refine TE.thenRet ?_
            refine TE.thenRet ?_
            refine TE.inRet ?_
            refine TE.thenRet ?_
            refine TE.ret1 rfl rfl ?_
            exact fun w h => ⟨rfl, (h.sub (List.nil_sublist _)).below⟩
          · skip
            (try simp only [decide_eq_true_eq, decide_eq_false_iff_not, beq_iff_eq, beq_eq_false_iff_ne, bne_iff_ne, ne_eq, bne_eq_false_iff_eq, Bool.not_eq_true', Bool.not_eq_false', Int.not_lt, Int.not_le, gt_iff_lt, ge_iff_le] at hs35)
            refine' TL.y rfl rfl rfl ?hy34 ?_
            case hy34 => exact Yl.move rfl rfl
            refine' TL.y rfl rfl rfl ?hy35 ?_
            case hy35 => exact Yl.move rfl rfl
            refine' TL.y rfl rfl rfl ?hy36 ?_
            case hy36 => first | exact Yl.ixn rfl rfl rfl Try.underlying25 (by kernel_rfl) (by omega) | exact Yl.ixz rfl rfl rfl Try.underlying25 (by kernel_rfl) (by omega) (by omega) | exact Yl.ixcn rfl rfl rfl Try.underlying25 (by kernel_rfl) (by omega) | exact Yl.ixcz rfl rfl rfl Try.underlying25 (by kernel_rfl) (by omega) (by omega)
            refine' TL.y rfl rfl rfl ?hy37 ?_
            case hy37 => first | exact Yl.load rfl rfl (by kernel_rfl) (Sl.vw hS2 rfl (by omega) (fun _ h => h)) | exact Yl.load rfl rfl (by kernel_rfl) (Hp.cell mem0 rfl) | exact Yl.load rfl rfl (by kernel_rfl) (Hp.cell mem1 rfl) | exact Yl.load rfl rfl (by kernel_rfl) (Hp.cell mem2 rfl) | exact Yl.load rfl rfl (by kernel_rfl) (Hp.cell mem3 rfl) | exact Yl.load rfl rfl (by kernel_rfl) (Hp.cell mem4 rfl) | exact Yl.load rfl rfl (by kernel_rfl) (Hp.rowAt mem0 (by omega) rfl) | exact Yl.load rfl rfl (by kernel_rfl) (Hp.rowAt mem1 (by omega) rfl) | exact Yl.load rfl rfl (by kernel_rfl) (Hp.rowAt mem2 (by omega) rfl) | exact Yl.load rfl rfl (by kernel_rfl) (Hp.rowAt mem3 (by omega) rfl) | exact Yl.load rfl rfl (by kernel_rfl) (Hp.rowAt mem4 (by omega) rfl)
            refine' TL.y rfl rfl rfl ?hy38 ?_
            case hy38 => exact Yl.bin rfl rfl rfl (Bin.gtr _ _ _ _)
            refine' TL.y rfl rfl rfl ?hy39 ?_
            case hy39 => exact Yl.pickF rfl rfl rfl
            refine TL.nil ?_
            refine TE.next ?_
            refine TC.cond rfl (fun hs41 => ?_) (fun hs41 => ?_)
            · skip
              (try simp only [decide_eq_true_eq, decide_eq_false_iff_not, beq_iff_eq, beq_eq_false_iff_ne, bne_iff_ne, ne_eq, bne_eq_false_iff_eq, Bool.not_eq_true', Bool.not_eq_false', Int.not_lt, Int.not_le, gt_iff_lt, ge_iff_le] at hs41)
              refine TC.seq ?_
              refine TC.region ?_
              refine' TL.y rfl rfl rfl ?hy40 ?_
              case hy40 => exact Yl.move rfl rfl
              refine' TL.y rfl rfl rfl ?hy41 ?_
              case hy41 => exact Yl.assign rfl rfl
              refine TL.nil ?_
              refine TE.next ?_
              refine TC.ret ?_
              refine TE.inRet ?_
              refine TE.thenRet ?_
              refine TE.thenRet ?_
              refine TE.inRet ?_
              refine TE.thenRet ?_
              refine TE.ret1 rfl rfl ?_
              exact fun w h => ⟨rfl, (h.sub (List.nil_sublist _)).below⟩
            · skip
              (try simp only [decide_eq_true_eq, decide_eq_false_iff_not, beq_iff_eq, beq_eq_false_iff_ne, bne_iff_ne, ne_eq, bne_eq_false_iff_eq, Bool.not_eq_true', Bool.not_eq_false', Int.not_lt, Int.not_le, gt_iff_lt, ge_iff_le] at hs41)
              refine TC.skip ?_
              refine TE.inNormal ?_
              refine TE.next ?_
              refine TC.region ?_
              refine' TL.y rfl rfl rfl ?hy42 ?_
              case hy42 => exact Yl.move rfl rfl
              refine' TL.y rfl rfl rfl ?hy43 ?_
              case hy43 => first | (refine Yl.val (Yl.bin rfl rfl rfl (Bin.add _ _ _ _)) (congrArg (Value.int .i64) (i64in ?_ ?_)) <;> omega) | exact Yl.bin rfl rfl rfl (Bin.add _ _ _ _)
              refine' TL.y rfl rfl rfl ?hy44 ?_
              case hy44 => exact Yl.assign rfl rfl
              refine TL.nil ?_
              refine TE.round (i + 1) ?hF45 ?hlt45 ?hs45 ?hm45
              case hF45 => exact ⟨by omega, fun j hj => by
                by_cases e : j = i
                · rw [e]; omega
                · exact hF j (by omega)⟩
              case hlt45 => omega
              case hs45 => exact ⟨rfl, rfl, rfl, rfl, rfl, rfl, trivial⟩
              case hm45 => exact fun _ h => h
        · skip
          (try simp only [decide_eq_true_eq, decide_eq_false_iff_not, beq_iff_eq, beq_eq_false_iff_ne, bne_iff_ne, ne_eq, bne_eq_false_iff_eq, Bool.not_eq_true', Bool.not_eq_false', Int.not_lt, Int.not_le, gt_iff_lt, ge_iff_le] at hs27)
          have hef : ∀ j, j < k → 0 ≤ ef j ∧ ef j ≤ 2199023255552 := fun j hj => hF j (by omega)
          refine TC.exit ?_
          refine TE.thenExit ?_
          refine TE.thenExit ?_
          refine TE.inHere ?_
          refine TE.next ?_
          refine TC.seq ?_
          refine TC.region ?_
          refine' TL.y rfl rfl rfl ?hy46 ?_
          case hy46 => exact Yl.move rfl rfl
          refine' TL.c rfl rfl rfl ?hy47 ?_
          case hy47 => exact Yc.call rfl Try.func13 (by kernel_rfl) rfl rfl (Hp.news (fun w h => k_of w (hS.below h.below) (by omega)))
          intro v44
          refine TL.fact (fun w h => h.ownSl mem0) ?_
          rintro ⟨A44, c44, rfl⟩
          refine' TL.y rfl rfl rfl ?hy48 ?_
          case hy48 => exact Yl.move rfl rfl
          refine' TL.y rfl rfl rfl ?hy49 ?_
          case hy49 => exact Yl.move rfl rfl
          refine' TL.y rfl rfl rfl ?hy50 ?_
          case hy50 => exact Yl.move rfl rfl
          refine' TL.c rfl rfl rfl ?hy51 ?_
          case hy51 => exact Yc.call rfl Try.func16 (by kernel_rfl) rfl rfl (Hp.calls (fun w h => k_rheld w (Hp.ownNw mem0 w h) hm (hS2.below h.below) hk t g))
          intro _
          refine' TL.y rfl rfl rfl ?hy52 ?_
          case hy52 => exact Yl.assign rfl rfl
          refine TL.nil ?_
          refine TE.next ?_
          refine TC.seq ?_
          refine TC.region ?_
          refine' TL.y rfl rfl rfl ?hy53 ?_
          case hy53 => exact Yl.move rfl rfl
          refine' TL.y rfl rfl rfl ?hy54 ?_
          case hy54 => exact Yl.move rfl rfl
          refine' TL.y rfl rfl rfl ?hy55 ?_
          case hy55 => exact Yl.move rfl rfl
          refine' TL.y rfl rfl rfl ?hy56 ?_
          case hy56 => exact Yl.move rfl rfl
          refine' TL.y rfl rfl rfl ?hy57 ?_
          case hy57 => exact Yl.move rfl rfl
          refine' TL.y rfl rfl rfl ?hy58 ?_
          case hy58 => exact Yl.move rfl rfl
          refine' TL.c rfl rfl rfl ?hy59 ?_
          case hy59 => exact Yc.call rfl Try.func17 (by kernel_rfl) rfl rfl (Hp.calls (fun w h => k_held w (hS.below h.below) hm (hS2.below h.below) hk t g))
          intro _
          refine' TL.y rfl rfl rfl ?hy60 ?_
          case hy60 => exact Yl.move rfl rfl
          refine' TL.y rfl rfl rfl ?hy61 ?_
          case hy61 => exact Yl.bin rfl rfl rfl (Bin.eqlB _ _ _ (by kernel_rfl))
          refine' TL.y rfl rfl rfl ?hy62 ?_
          case hy62 => exact Yl.pickT rfl rfl rfl
          refine' TL.y rfl rfl rfl ?hy63 ?_
          case hy63 => exact Yl.move rfl rfl
          refine TL.re (i := 59) (v' := .bool true) rfl (congrArg Value.bool (by rw [beq_self_eq_true])) ?_
          refine' TL.y rfl rfl rfl ?hy64 ?_
          case hy64 => exact Yl.move rfl rfl
          refine' TL.y rfl rfl rfl ?hy65 ?_
          case hy65 => exact Yl.move rfl rfl
          refine' TL.y rfl rfl rfl ?hy66 ?_
          case hy66 => exact Yl.move rfl rfl
          refine' TL.c rfl rfl rfl ?hy67 ?_
          case hy67 => exact Yc.call rfl Try.func18 (by kernel_rfl) rfl rfl (Hp.news (fun w h => k_over w (hS.below h.below) hm (hS2.below h.below) hk hef t))
          intro v63
          refine TL.fact (fun w h => h.ownSl mem0) ?_
          rintro ⟨A63, c63, rfl⟩
          refine' TL.y rfl rfl rfl ?hy68 ?_
          case hy68 => exact Yl.move rfl rfl
          refine' TL.c rfl rfl rfl ?hy69 ?_
          case hy69 => exact Yc.call rfl Try.func13 (by kernel_rfl) rfl rfl (Hp.news (fun w h => k_of w (hS.below h.below) (by omega)))
          intro v65
          refine TL.fact (fun w h => h.ownSl mem0) ?_
          rintro ⟨A65, c65, rfl⟩
          refine' TL.y rfl rfl rfl ?hy70 ?_
          case hy70 => exact Yl.move rfl rfl
          refine' TL.y rfl rfl rfl ?hy71 ?_
          case hy71 => exact Yl.move rfl rfl
          refine' TL.c rfl rfl rfl ?hy72 ?_
          case hy72 => exact Yc.call rfl Try.func19 (by kernel_rfl) rfl rfl (Hp.news (fun w h => k_rover w (Hp.ownNw mem0 w h) hm (hS2.below h.below) hk hef t))
          intro v68
          refine TL.fact (fun w h => h.ownSl mem0) ?_
          rintro ⟨A68, c68, rfl⟩
          refine' TL.c rfl rfl rfl ?hy73 ?_
          case hy73 => exact Yc.call rfl Try.func10 (by kernel_rfl) rfl rfl (Hp.calls (fun w h => k_row w (h.ownVw mem2) (h.ownVw mem0) (by unfold lenO; split <;> omega)))
          intro _
          refine TL.re (i := 69) (v' := .bool true) rfl (congrArg Value.bool (decide_eq_true ⟨rfl, fun _ _ => rfl⟩)) ?_
          refine' TL.y rfl rfl rfl ?hy74 ?_
          case hy74 => exact Yl.pickT rfl rfl rfl
          refine' TL.y rfl rfl rfl ?hy75 ?_
          case hy75 => exact Yl.assign rfl rfl
          refine TL.nil ?_
          refine TE.next ?_
          refine TC.ret ?_
          refine TE.ret1 rfl rfl ?_
          exact fun w h => ⟨rfl, (h.sub (List.nil_sublist _)).below⟩
end Go.Proofs.Ytipdpmmjmlimhaa.Pk
