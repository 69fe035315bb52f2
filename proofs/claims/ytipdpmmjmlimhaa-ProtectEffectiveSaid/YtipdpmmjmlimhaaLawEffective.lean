/- Effective. -/
import Derived.Test.YtipdpmmjmlimhaaPrW
import Derived.Test.YtipdpmmjmlimhaaProg
import Derived.RowKit3
namespace Go.Proofs.Ytipdpmmjmlimhaa.Pk
open Go Go.RowKit Go.Proofs.Ytipdpmmjmlimhaa.HL Go.Proofs.Ytipdpmmjmlimhaa.Ev Go.Proofs.YtipdpmmjmlimhaaW.PrintWords Go.Proofs.PrP Go.Proofs.DvP
set_option linter.unusedVariables false
set_option linter.unusedSimpArgs false
attribute [local irreducible] upR nU Nw Vw blV sumC sumK heldV
set_option maxRecDepth 100000 in
set_option maxHeartbeats 2000000 in
theorem law_effective (W : World) {m : Nat} {f : Nat → Nd} {A : Option Addr} {cp : Nat} (hS : Sl W A (Nw m f)) (hm : m ≤ 9223372036854775807) (hcp : m ≤ cp) (t : Int) : Calls Try.prog 3 #[.slice A m cp, .int .i64 t] W fun e w' => e = .returned (.bool true) ∧ Below W.heap.size W w' := by
  have hM : Hp W (fun _ => False) [] W := Hp.start
  refine TC.enter (n := 32) Try.func3 rfl rfl rfl hM ?_
  refine TC.seq ?_
  refine TC.region ?_
  refine' TL.y rfl rfl rfl ?hy1 ?_
  case hy1 => exact Yl.assign rfl rfl
  refine TL.nil ?_
  refine TE.next ?_
  refine TC.seq ?_
  refine TC.region ?_
  refine' TL.c rfl rfl rfl ?hy2 ?_
  case hy2 => exact Yc.call rfl Try.func9 (by kernel_rfl) rfl rfl (Hp.calls (fun w h => k_works w))
  intro _
  refine' TL.y rfl rfl rfl ?hy3 ?_
  case hy3 => exact Yl.assign rfl rfl
  refine TL.nil ?_
  refine TE.next ?_
  refine TC.seq ?_
  refine TC.seq ?_
  refine TC.region ?_
  refine' TL.y rfl rfl rfl ?hy4 ?_
  case hy4 => exact Yl.move rfl rfl
  refine' TL.y rfl rfl rfl ?hy5 ?_
  case hy5 => exact Yl.not rfl rfl
  refine TL.nil ?_
  refine TE.next ?_
  refine TC.no rfl rfl ?_
  refine TC.skip ?_
  refine TE.next ?_
  refine TC.seq ?_
  refine TC.seq ?_
  refine TC.region ?_
  refine' TL.y rfl rfl rfl ?hy6 ?_
  case hy6 => exact Yl.move rfl rfl
  refine' TL.y rfl rfl rfl ?hy7 ?_
  case hy7 => exact Yl.len rfl rfl Try.underlying22
  refine' TL.y rfl rfl rfl ?hy8 ?_
  case hy8 => exact Yl.bin rfl rfl rfl (Bin.gtr _ _ _ _)
  refine TL.nil ?_
  refine TE.next ?_
  refine TC.cond rfl (fun hs11 => ?_) (fun hs11 => ?_)
  · skip
    (try simp only [decide_eq_true_eq, decide_eq_false_iff_not, beq_iff_eq, beq_eq_false_iff_ne, bne_iff_ne, ne_eq, bne_eq_false_iff_eq, Bool.not_eq_true', Bool.not_eq_false', Int.not_lt, Int.not_le, gt_iff_lt, ge_iff_le] at hs11)
    refine TC.seq ?_
    refine TC.region ?_
    refine' TL.y rfl rfl rfl ?hy9 ?_
    case hy9 => exact Yl.move rfl rfl
    refine' TL.y rfl rfl rfl ?hy10 ?_
    case hy10 => exact Yl.assign rfl rfl
    refine TL.nil ?_
    refine TE.next ?_
    refine TC.ret ?_
    refine TE.thenRet ?_
    refine TE.ret1 rfl rfl ?_
    exact fun w h => ⟨rfl, (h.sub (List.nil_sublist _)).below⟩
  · skip
    (try simp only [decide_eq_true_eq, decide_eq_false_iff_not, beq_iff_eq, beq_eq_false_iff_ne, bne_iff_ne, ne_eq, bne_eq_false_iff_eq, Bool.not_eq_true', Bool.not_eq_false', Int.not_lt, Int.not_le, gt_iff_lt, ge_iff_le] at hs11)
    refine TC.skip ?_
    refine TE.next ?_
    refine TC.seq ?_
    refine TC.region ?_
    refine' TL.y rfl rfl rfl ?hy11 ?_
    case hy11 => exact Yl.move rfl rfl
    refine' TL.y rfl rfl rfl ?hy12 ?_
    case hy12 => exact Yl.move rfl rfl
    refine' TL.y rfl rfl rfl ?hy13 ?_
    case hy13 => exact Yl.move rfl rfl
    refine' TL.y rfl rfl rfl ?hy14 ?_
    case hy14 => exact Yl.move rfl rfl
    refine' TL.c rfl rfl rfl ?hy15 ?_
    case hy15 => exact Yc.call rfl Try.func11 (by kernel_rfl) rfl rfl (Hp.news (fun w h => k_eff w (hS.below h.below) (by omega) (hcp) t))
    intro v17
    refine TL.fact (fun w h => h.ownSl mem0) ?_
    rintro ⟨A17, c17, rfl⟩
    refine' TL.y rfl rfl rfl ?hy16 ?_
    case hy16 => exact Yl.move rfl rfl
    refine' TL.c rfl rfl rfl ?hy17 ?_
    case hy17 => exact Yc.call rfl Try.func13 (by kernel_rfl) rfl rfl (Hp.news (fun w h => k_of w (hS.below h.below) (by omega)))
    intro v19
    refine TL.fact (fun w h => h.ownSl mem0) ?_
    rintro ⟨A19, c19, rfl⟩
    refine' TL.y rfl rfl rfl ?hy18 ?_
    case hy18 => exact Yl.move rfl rfl
    refine' TL.c rfl rfl rfl ?hy19 ?_
    case hy19 => exact Yc.call rfl Try.func12 (by kernel_rfl) rfl rfl (Hp.news (fun w h => k_reff w (Hp.ownNw mem0 w h) hm t))
    intro v21
    refine TL.fact (fun w h => h.ownSl mem0) ?_
    rintro ⟨A21, c21, rfl⟩
    refine' TL.c rfl rfl rfl ?hy20 ?_
    case hy20 => exact Yc.call rfl Try.func10 (by kernel_rfl) rfl rfl (Hp.calls (fun w h => k_row w (h.ownVw mem2) (h.ownVw mem0) (by unfold lenE; split <;> omega)))
    intro _
    refine TL.re (i := 22) (v' := .bool true) rfl (congrArg Value.bool (decide_eq_true ⟨rfl, fun _ _ => rfl⟩)) ?_
    refine' TL.y rfl rfl rfl ?hy21 ?_
    case hy21 => exact Yl.pickT rfl rfl rfl
    refine' TL.y rfl rfl rfl ?hy22 ?_
    case hy22 => exact Yl.move rfl rfl
    refine' TL.y rfl rfl rfl ?hy23 ?_
    case hy23 => exact Yl.move rfl rfl
    refine' TL.c rfl rfl rfl ?hy24 ?_
    case hy24 => exact Yc.call rfl Try.func14 (by kernel_rfl) rfl rfl (Hp.calls (fun w h => k_valid w (hS.below h.below) hm))
    intro _
    refine' TL.y rfl rfl rfl ?hy25 ?_
    case hy25 => exact Yl.move rfl rfl
    refine' TL.c rfl rfl rfl ?hy26 ?_
    case hy26 => exact Yc.call rfl Try.func13 (by kernel_rfl) rfl rfl (Hp.news (fun w h => k_of w (hS.below h.below) (by omega)))
    intro v28
    refine TL.fact (fun w h => h.ownSl mem0) ?_
    rintro ⟨A28, c28, rfl⟩
    refine' TL.c rfl rfl rfl ?hy27 ?_
    case hy27 => exact Yc.call rfl Try.func15 (by kernel_rfl) rfl rfl (Hp.calls (fun w h => k_rvalid w (Hp.ownNw mem0 w h) hm))
    intro _
    refine' TL.y rfl rfl rfl ?hy28 ?_
    case hy28 => exact Yl.bin rfl rfl rfl (Bin.eqlB _ _ _ (by kernel_rfl))
    refine' TL.y rfl rfl rfl ?hy29 ?_
    case hy29 => exact Yl.pickT rfl rfl rfl
    refine' TL.y rfl rfl rfl ?hy30 ?_
    case hy30 => exact Yl.assign rfl rfl
    refine TL.nil ?_
    refine TE.next ?_
    refine TC.ret ?_
    refine TE.ret1 rfl rfl ?_
    exact fun w h => ⟨by simp, (h.sub (List.nil_sublist _)).below⟩
end Go.Proofs.Ytipdpmmjmlimhaa.Pk
