/- Where nobody asks, and where all do. -/
import Derived.Test.YtipdpmmjmlimhaaPrW
import Derived.Test.YtipdpmmjmlimhaaProg
import Derived.RowKit3
namespace Go.Proofs.Ytipdpmmjmlimhaa.Pk
open Go Go.RowKit Go.Proofs.Ytipdpmmjmlimhaa.HL Go.Proofs.Ytipdpmmjmlimhaa.Ev Go.Proofs.YtipdpmmjmlimhaaW.PrintWords Go.Proofs.PrP Go.Proofs.DvP
set_option linter.unusedVariables false
set_option linter.unusedSimpArgs false
attribute [local irreducible] upR nU Nw Vw blV sumC sumK heldV
section
attribute [local semireducible] Nw
theorem Nw_zero {f : Nat → Nd} : Nw 0 f = [] := rfl
end
set_option maxRecDepth 100000 in
set_option maxHeartbeats 2000000 in
theorem law_none (W : World) {m : Nat} {f : Nat → Nd} {A : Option Addr} {cp : Nat} (hS : Sl W A (Nw m f)) (hm : m ≤ 9223372036854775807) (hcp : m ≤ cp) (t : Int) : Calls Try.prog 7 #[.slice A m cp, .int .i64 t] W fun e w' => e = .returned (.bool true) ∧ Below W.heap.size W w' := by
  have hM : Hp W (fun _ => False) [] W := Hp.start
  refine TC.enter (n := 192) Try.func7 rfl rfl rfl hM ?_
  refine TC.seq ?_
  refine TC.region ?_
  refine' TL.y rfl rfl rfl ?hy1 ?_
  case hy1 => exact Yl.assign rfl rfl
  refine TL.nil ?_
  refine TE.next ?_
  refine TC.seq ?_
  refine TC.region ?_
  refine' TL.c rfl rfl rfl ?hy2 ?_
  case hy2 => exact Yc.call rfl Try.func9 (by kernel_rfl) rfl rfl (Hp.calls (fun w h => k_works w))
  intro _
  refine' TL.y rfl rfl rfl ?hy3 ?_
  case hy3 => exact Yl.assign rfl rfl
  refine TL.nil ?_
  refine TE.next ?_
  refine TC.seq ?_
  refine TC.seq ?_
  refine TC.region ?_
  refine' TL.y rfl rfl rfl ?hy4 ?_
  case hy4 => exact Yl.move rfl rfl
  refine' TL.y rfl rfl rfl ?hy5 ?_
  case hy5 => exact Yl.not rfl rfl
  refine TL.nil ?_
  refine TE.next ?_
  refine TC.no rfl rfl ?_
  refine TC.skip ?_
  refine TE.next ?_
  refine TC.seq ?_
  refine TC.seq ?_
  refine TC.region ?_
  refine' TL.y rfl rfl rfl ?hy6 ?_
  case hy6 => exact Yl.move rfl rfl
  refine' TL.y rfl rfl rfl ?hy7 ?_
  case hy7 => exact Yl.len rfl rfl Try.underlying22
  refine' TL.y rfl rfl rfl ?hy8 ?_
  case hy8 => exact Yl.bin rfl rfl rfl (Bin.gtr _ _ _ _)
  refine' TL.y rfl rfl rfl ?hy9 ?_
  case hy9 => exact Yl.move rfl rfl
  refine TL.split (i := 22) rfl (fun hs22 => ?_) (fun hs22 => ?_)
  · skip
    (try simp only [decide_eq_true_eq, decide_eq_false_iff_not, beq_iff_eq, beq_eq_false_iff_ne, bne_iff_ne, ne_eq, bne_eq_false_iff_eq, Bool.not_eq_true', Bool.not_eq_false', Int.not_lt, Int.not_le, gt_iff_lt, ge_iff_le] at hs22)
    refine TL.skip rfl rfl rfl ?_
    refine TL.skip rfl rfl rfl ?_
    refine TL.skip rfl rfl rfl ?_
    refine' TL.y rfl rfl rfl ?hy10 ?_
    case hy10 => exact Yl.pickT rfl rfl rfl
    refine' TL.y rfl rfl rfl ?hy11 ?_
    case hy11 => exact Yl.move rfl rfl
    refine TL.skip rfl rfl rfl ?_
    refine TL.skip rfl rfl rfl ?_
    refine' TL.y rfl rfl rfl ?hy12 ?_
    case hy12 => exact Yl.pickT rfl rfl rfl
    refine' TL.y rfl rfl rfl ?hy13 ?_
    case hy13 => exact Yl.move rfl rfl
    refine TL.skip rfl rfl rfl ?_
    refine TL.skip rfl rfl rfl ?_
    refine TL.skip rfl rfl rfl ?_
    refine TL.skip rfl rfl rfl ?_
    refine' TL.y rfl rfl rfl ?hy14 ?_
    case hy14 => exact Yl.pickT rfl rfl rfl
    refine TL.nil ?_
    refine TE.next ?_
    refine TC.yes rfl rfl ?_
    refine TC.seq ?_
    refine TC.region ?_
    refine' TL.y rfl rfl rfl ?hy15 ?_
    case hy15 => exact Yl.move rfl rfl
    refine' TL.y rfl rfl rfl ?hy16 ?_
    case hy16 => exact Yl.assign rfl rfl
    refine TL.nil ?_
    refine TE.next ?_
    refine TC.ret ?_
    refine TE.thenRet ?_
    refine TE.ret1 rfl rfl ?_
    exact fun w h => ⟨rfl, (h.sub (List.nil_sublist _)).below⟩
  · skip
    (try simp only [decide_eq_true_eq, decide_eq_false_iff_not, beq_iff_eq, beq_eq_false_iff_ne, bne_iff_ne, ne_eq, bne_eq_false_iff_eq, Bool.not_eq_true', Bool.not_eq_false', Int.not_lt, Int.not_le, gt_iff_lt, ge_iff_le] at hs22)
    refine' TL.y rfl rfl rfl ?hy17 ?_
    case hy17 => exact Yl.move rfl rfl
    refine' TL.c rfl rfl rfl ?hy18 ?_
    case hy18 => exact Yc.call rfl Try.func14 (by kernel_rfl) rfl rfl (Hp.calls (fun w h => k_valid w (hS.below h.below) hm))
    intro _
    refine' TL.y rfl rfl rfl ?hy19 ?_
    case hy19 => exact Yl.not rfl rfl
    refine' TL.y rfl rfl rfl ?hy20 ?_
    case hy20 => exact Yl.pickF rfl rfl rfl
    refine' TL.y rfl rfl rfl ?hy21 ?_
    case hy21 => exact Yl.move rfl rfl
    refine TL.split (i := 27) rfl (fun hs27 => ?_) (fun hs27 => ?_)
    · skip
      (try simp only [decide_eq_true_eq, decide_eq_false_iff_not, beq_iff_eq, beq_eq_false_iff_ne, bne_iff_ne, ne_eq, bne_eq_false_iff_eq, Bool.not_eq_true', Bool.not_eq_false', Int.not_lt, Int.not_le, gt_iff_lt, ge_iff_le] at hs27)
      refine TL.skip rfl rfl rfl ?_
      refine TL.skip rfl rfl rfl ?_
      refine' TL.y rfl rfl rfl ?hy22 ?_
      case hy22 => exact Yl.pickT rfl rfl rfl
      refine' TL.y rfl rfl rfl ?hy23 ?_
      case hy23 => exact Yl.move rfl rfl
      refine TL.skip rfl rfl rfl ?_
      refine TL.skip rfl rfl rfl ?_
      refine TL.skip rfl rfl rfl ?_
      refine TL.skip rfl rfl rfl ?_
      refine' TL.y rfl rfl rfl ?hy24 ?_
      case hy24 => exact Yl.pickT rfl rfl rfl
      refine TL.nil ?_
      refine TE.next ?_
      refine TC.yes rfl rfl ?_
      refine TC.seq ?_
      refine TC.region ?_
      refine' TL.y rfl rfl rfl ?hy25 ?_
      case hy25 => exact Yl.move rfl rfl
      refine' TL.y rfl rfl rfl ?hy26 ?_
      case hy26 => exact Yl.assign rfl rfl
      refine TL.nil ?_
      refine TE.next ?_
      refine TC.ret ?_
      refine TE.thenRet ?_
      refine TE.ret1 rfl rfl ?_
      exact fun w h => ⟨rfl, (h.sub (List.nil_sublist _)).below⟩
    · skip
      (try simp only [decide_eq_true_eq, decide_eq_false_iff_not, beq_iff_eq, beq_eq_false_iff_ne, bne_iff_ne, ne_eq, bne_eq_false_iff_eq, Bool.not_eq_true', Bool.not_eq_false', Int.not_lt, Int.not_le, gt_iff_lt, ge_iff_le] at hs27)
      refine' TL.y rfl rfl rfl ?hy27 ?_
      case hy27 => exact Yl.move rfl rfl
      refine' TL.y rfl rfl rfl ?hy28 ?_
      case hy28 => exact Yl.bin rfl rfl rfl (Bin.lss _ _ _ _)
      refine' TL.y rfl rfl rfl ?hy29 ?_
      case hy29 => exact Yl.pickF rfl rfl rfl
      refine' TL.y rfl rfl rfl ?hy30 ?_
      case hy30 => exact Yl.move rfl rfl
      refine TL.split (i := 31) rfl (fun hs31 => ?_) (fun hs31 => ?_)
      · skip
        (try simp only [decide_eq_true_eq, decide_eq_false_iff_not, beq_iff_eq, beq_eq_false_iff_ne, bne_iff_ne, ne_eq, bne_eq_false_iff_eq, Bool.not_eq_true', Bool.not_eq_false', Int.not_lt, Int.not_le, gt_iff_lt, ge_iff_le] at hs31)
        refine TL.skip rfl rfl rfl ?_
        refine TL.skip rfl rfl rfl ?_
        refine TL.skip rfl rfl rfl ?_
        refine TL.skip rfl rfl rfl ?_
        refine' TL.y rfl rfl rfl ?hy31 ?_
        case hy31 => exact Yl.pickT rfl rfl rfl
        refine TL.nil ?_
        refine TE.next ?_
        refine TC.yes rfl rfl ?_
        refine TC.seq ?_
        refine TC.region ?_
        refine' TL.y rfl rfl rfl ?hy32 ?_
        case hy32 => exact Yl.move rfl rfl
        refine' TL.y rfl rfl rfl ?hy33 ?_
        case hy33 => exact Yl.assign rfl rfl
        refine TL.nil ?_
        refine TE.next ?_
        refine TC.ret ?_
        refine TE.thenRet ?_
        refine TE.ret1 rfl rfl ?_
        exact fun w h => ⟨rfl, (h.sub (List.nil_sublist _)).below⟩
      · skip
        (try simp only [decide_eq_true_eq, decide_eq_false_iff_not, beq_iff_eq, beq_eq_false_iff_ne, bne_iff_ne, ne_eq, bne_eq_false_iff_eq, Bool.not_eq_true', Bool.not_eq_false', Int.not_lt, Int.not_le, gt_iff_lt, ge_iff_le] at hs31)
        refine' TL.y rfl rfl rfl ?hy34 ?_
        case hy34 => exact Yl.move rfl rfl
        refine' TL.y rfl rfl rfl ?hy35 ?_
        case hy35 => exact Yl.move rfl rfl
        refine' TL.y rfl rfl rfl ?hy36 ?_
        case hy36 => exact Yl.len rfl rfl Try.underlying22
        refine' TL.y rfl rfl rfl ?hy37 ?_
        case hy37 => exact Yl.bin rfl rfl rfl (Bin.geq _ _ _ _)
        refine' TL.y rfl rfl rfl ?hy38 ?_
        case hy38 => exact Yl.pickF rfl rfl rfl
        refine TL.nil ?_
        refine TE.next ?_
        refine TC.cond rfl (fun hs36 => ?_) (fun hs36 => ?_)
        · skip
          (try simp only [decide_eq_true_eq, decide_eq_false_iff_not, beq_iff_eq, beq_eq_false_iff_ne, bne_iff_ne, ne_eq, bne_eq_false_iff_eq, Bool.not_eq_true', Bool.not_eq_false', Int.not_lt, Int.not_le, gt_iff_lt, ge_iff_le] at hs36)
          refine TC.seq ?_
          refine TC.region ?_
          refine' TL.y rfl rfl rfl ?hy39 ?_
          case hy39 => exact Yl.move rfl rfl
          refine' TL.y rfl rfl rfl ?hy40 ?_
          case hy40 => exact Yl.assign rfl rfl
          refine TL.nil ?_
          refine TE.next ?_
          refine TC.ret ?_
          refine TE.thenRet ?_
          refine TE.ret1 rfl rfl ?_
          exact fun w h => ⟨rfl, (h.sub (List.nil_sublist _)).below⟩
        · skip
          (try simp only [decide_eq_true_eq, decide_eq_false_iff_not, beq_iff_eq, beq_eq_false_iff_ne, bne_iff_ne, ne_eq, bne_eq_false_iff_eq, Bool.not_eq_true', Bool.not_eq_false', Int.not_lt, Int.not_le, gt_iff_lt, ge_iff_le] at hs36)
          have hV : Vld m f ∧ 0 ≤ t ∧ t < m := by refine ⟨?_, by omega, by omega⟩; by_cases e : Vld m f; exact e; simp_all
          have hv := hV.1
          have ht0 := hV.2.1
          have ht1 := hV.2.2
          have hm64 := hv.m1
          obtain ⟨b, o, rfl⟩ := Sl.some2 hS (by rw [Nw_length]; omega)
          refine TC.skip ?_
          refine TE.next ?_
          refine TC.seq ?_
          refine TC.wk (fun w h => Hp.nil (e := 38) (size := 3) h) ?_
          refine TC.region ?_
          refine' TL.y rfl rfl rfl ?hy41 ?_
          case hy41 => exact Yl.assign rfl rfl
          refine TL.nil ?_
          refine TE.next ?_
          refine TC.seq ?_
          refine TC.wk (fun w h => Hp.nil (e := 38) (size := 3) h) ?_
          refine TC.region ?_
          refine' TL.y rfl rfl rfl ?hy42 ?_
          case hy42 => exact Yl.assign rfl rfl
          refine TL.nil ?_
          refine TE.next ?_
          refine TC.seq ?_
          refine TC.region ?_
          refine' TL.y rfl rfl rfl ?hy43 ?_
          case hy43 => exact Yl.move rfl rfl
          refine' TL.y rfl rfl rfl ?hy44 ?_
          case hy44 => exact Yl.len rfl rfl Try.underlying22
          refine' TL.mx rfl rfl rfl ?hy45 ?_
          case hy45 => exact Ym.makeRow (z := .int .i64 0) (by_ := 8) rfl rfl rfl Try.underlying25 (by kernel_rfl) rfl (by omega) (by omega) (by omega)
          intro b40
          simp only [Int.toNat_natCast]
          refine TL.wk (fun w h => madeOwn (maxL hv.m1) h) ?_
          refine' TL.y rfl rfl rfl ?hy46 ?_
          case hy46 => exact Yl.assign rfl rfl
          refine TL.nil ?_
          refine TE.next ?_
          refine TC.seq ?_
          refine TC.seq ?_
          refine TC.region ?_
          refine' TL.y rfl rfl rfl ?hy47 ?_
          case hy47 => exact Yl.move rfl rfl
          refine' TL.y rfl rfl rfl ?hy48 ?_
          case hy48 => exact Yl.len rfl rfl Try.underlying22
          refine' TL.y rfl rfl rfl ?hy49 ?_
          case hy49 => first | (refine Yl.val (Yl.bin rfl rfl rfl (Bin.sub _ _ _ _)) (congrArg (Value.int .i64) (i64in ?_ ?_)) <;> omega) | exact Yl.bin rfl rfl rfl (Bin.sub _ _ _ _)
          refine' TL.y rfl rfl rfl ?hy50 ?_
          case hy50 => exact Yl.assign rfl rfl
          refine TL.nil ?_
          refine TE.next ?_
          refine TC.block ?_
          refine TC.loop (σ := Nat × (Nat → Int)) (fun s => [(0, .slice (some ⟨b, o, none⟩) m cp), (1, .int .i64 t), (5, .bool true), (6, .slice none 0 0), (7, .slice none 0 0), (8, .slice (some ⟨b40, 0, none⟩) m m), (9, .int .i64 ((s.1 : Int) - 1))]) (fun s => Hp W (fun _ => False) [ownR 3 1 (.slice (some ⟨b40, 0, none⟩) m m) (m) (Vw (m) (s.2)), ownR 38 3 (.slice none 0 0) 0 [], ownR 38 3 (.slice none 0 0) 0 []]) (fun s => s.1 ≤ m ∧ UseI m s.1 s.2) (fun s => s.1) (m, fun _ => 0) ?hF51 ?hs51 ?hm51 ?round51
          case hF51 => exact ⟨Nat.le_refl _, UseI.start m⟩
          case hs51 => exact ⟨rfl, rfl, rfl, rfl, rfl, rfl, rfl, trivial⟩
          case hm51 => exact fun _ h => h
          case round51 =>
            rintro ⟨c, u⟩ ⟨hc, hI⟩
            dsimp only at hc hI ⊢
            refine TC.seq ?_
            refine TC.seq ?_
            refine TC.region ?_
            refine' TL.y rfl rfl rfl ?hy52 ?_
            case hy52 => exact Yl.move rfl rfl
            refine' TL.y rfl rfl rfl ?hy53 ?_
            case hy53 => exact Yl.bin rfl rfl rfl (Bin.geq _ _ _ _)
            refine TL.nil ?_
            refine TE.next ?_
            refine TC.cond rfl (fun hs45 => ?_) (fun hs45 => ?_)
            · skip
              (try simp only [decide_eq_true_eq, decide_eq_false_iff_not, beq_iff_eq, beq_eq_false_iff_ne, bne_iff_ne, ne_eq, bne_eq_false_iff_eq, Bool.not_eq_true', Bool.not_eq_false', Int.not_lt, Int.not_le, gt_iff_lt, ge_iff_le] at hs45)
              obtain ⟨c, rfl⟩ : ∃ k, c = k + 1 := ⟨c - 1, by omega⟩
              refine TC.re (i := 9) (v' := .int .i64 (c : Int)) rfl (congrArg (Value.int .i64) (by omega)) ?_
              have hus := hv.us c (by omega)
              have hcm : c < m := by omega
              have hI2 := hI.one hcm (v := upI u c (u c + (f c).2.1 % 1000)) (r := (f c).2.1 % 1000) (by omega) (by unfold upI; rw [if_pos rfl]) (fun j hj => by unfold upI; rw [if_neg hj])
              have hpar := hv.par hcm
              refine TC.skip ?_
              refine TE.next ?_
              refine TC.seq ?_
              refine TC.block ?_
              refine TC.seq ?_
              refine TC.draw (k := 15) _ [14] #[false, false, false, false, false, false, false, false, false, false, false, false, false, false, false] (by kernel_rfl) rfl rfl (fun _ h => h.drew) (fun _ h => h) ?_
              refine' TA.p (i := 0) #[true, false, false, false, false, false, false, false, false, false, false, false, false, false, false] rfl rfl rfl (by kernel_rfl) (fun _ _ _ h => h) rfl ?hy54 ?_
              case hy54 => exact Yl.move rfl rfl
              refine' TA.p (i := 1) #[true, true, false, false, false, false, false, false, false, false, false, false, false, false, false] rfl rfl rfl (by kernel_rfl) (fun _ _ _ h => h) rfl ?hy55 ?_
              case hy55 => exact Yl.move rfl rfl
              refine' TA.p (i := 2) #[true, true, true, false, false, false, false, false, false, false, false, false, false, false, false] rfl rfl rfl (by kernel_rfl) (fun _ _ _ h => h) rfl ?hy56 ?_
              case hy56 => exact Yl.move rfl rfl
              refine' TA.p (i := 3) #[true, true, true, true, false, false, false, false, false, false, false, false, false, false, false] rfl rfl rfl (by kernel_rfl) (fun _ _ _ h => h) rfl ?hy57 ?_
              case hy57 => exact Yl.move rfl rfl
              refine' TA.p (i := 4) #[true, true, true, true, true, false, false, false, false, false, false, false, false, false, false] rfl rfl rfl (by kernel_rfl) (fun _ _ _ h => h) rfl ?hy58 ?_
              case hy58 => first | exact Yl.ixn rfl rfl rfl Try.underlying25 (by kernel_rfl) (by omega) | exact Yl.ixz rfl rfl rfl Try.underlying25 (by kernel_rfl) (by omega) (by omega) | exact Yl.ixcn rfl rfl rfl Try.underlying25 (by kernel_rfl) (by omega) | exact Yl.ixcz rfl rfl rfl Try.underlying25 (by kernel_rfl) (by omega) (by omega)
              refine' TA.y (i := 5) #[true, true, true, true, true, true, false, false, false, false, false, false, false, false, false] rfl rfl rfl (by kernel_rfl) (fun _ _ _ h => h) (fun _ h => by exact Hp.sub h (by repeat (first | exact List.Sublist.refl _ | apply List.Sublist.cons))) rfl ?hy59 ?_
              case hy59 => first | exact Yl.load rfl rfl (by kernel_rfl) (Hp.vw mem0 (by omega)) | exact Yl.load rfl rfl (by kernel_rfl) (Hp.vw mem1 (by omega)) | exact Yl.load rfl rfl (by kernel_rfl) (Hp.vw mem2 (by omega)) | exact Yl.load rfl rfl (by kernel_rfl) (Sl.nw hS (i := 0) rfl (by omega) (by decide)) | exact Yl.load rfl rfl (by kernel_rfl) (Sl.nw hS (i := 1) rfl (by omega) (by decide)) | exact Yl.load rfl rfl (by kernel_rfl) (Sl.nw hS (i := 2) rfl (by omega) (by decide)) | exact Yl.load rfl rfl (by kernel_rfl) (Hp.cell mem0 rfl) | exact Yl.load rfl rfl (by kernel_rfl) (Hp.cell mem1 rfl) | exact Yl.load rfl rfl (by kernel_rfl) (Hp.cell mem2 rfl) | exact Yl.load rfl rfl (by kernel_rfl) (Hp.cell mem3 rfl) | exact Yl.load rfl rfl (by kernel_rfl) (Hp.cell mem4 rfl) | exact Yl.load rfl rfl (by kernel_rfl) (Hp.rowAt mem0 (by omega) rfl) | exact Yl.load rfl rfl (by kernel_rfl) (Hp.rowAt mem1 (by omega) rfl) | exact Yl.load rfl rfl (by kernel_rfl) (Hp.rowAt mem2 (by omega) rfl) | exact Yl.load rfl rfl (by kernel_rfl) (Hp.rowAt mem3 (by omega) rfl) | exact Yl.load rfl rfl (by kernel_rfl) (Hp.rowAt mem4 (by omega) rfl)
              refine' TA.p (i := 6) #[true, true, true, true, true, true, true, false, false, false, false, false, false, false, false] rfl rfl rfl (by kernel_rfl) (fun _ _ _ h => h) rfl ?hy60 ?_
              case hy60 => exact Yl.move rfl rfl
              refine' TA.p (i := 7) #[true, true, true, true, true, true, true, true, false, false, false, false, false, false, false] rfl rfl rfl (by kernel_rfl) (fun _ _ _ h => h) rfl ?hy61 ?_
              case hy61 => exact Yl.move rfl rfl
              refine' TA.p (i := 8) #[true, true, true, true, true, true, true, true, true, false, false, false, false, false, false] rfl rfl rfl (by kernel_rfl) (fun _ _ _ h => h) rfl ?hy62 ?_
              case hy62 => exact Yl.ixkn (k := 3) rfl rfl rfl Try.underlying22 (by kernel_rfl) (by omega)
              refine' TA.p (i := 9) #[true, true, true, true, true, true, true, true, true, true, false, false, false, false, false] rfl rfl rfl (by kernel_rfl) (fun _ _ _ h => h) rfl ?hy63 ?_
              case hy63 => first | exact Yl.field0 (k := 0) 1 rfl rfl Try.underlying38 rfl (by kernel_rfl) rfl | exact Yl.field (k := 0) 1 rfl rfl Try.underlying38 rfl (by kernel_rfl) rfl
              refine' TA.y (i := 10) #[true, true, true, true, true, true, true, true, true, true, true, false, false, false, false] rfl rfl rfl (by kernel_rfl) (fun _ _ _ h => h) (fun _ h => by exact Hp.sub h (by repeat (first | exact List.Sublist.refl _ | apply List.Sublist.cons))) rfl ?hy64 ?_
              case hy64 => first | exact Yl.load rfl rfl (by kernel_rfl) (Hp.vw mem0 (by omega)) | exact Yl.load rfl rfl (by kernel_rfl) (Hp.vw mem1 (by omega)) | exact Yl.load rfl rfl (by kernel_rfl) (Hp.vw mem2 (by omega)) | exact Yl.load rfl rfl (by kernel_rfl) (Sl.nw hS (i := 0) rfl (by omega) (by decide)) | exact Yl.load rfl rfl (by kernel_rfl) (Sl.nw hS (i := 1) rfl (by omega) (by decide)) | exact Yl.load rfl rfl (by kernel_rfl) (Sl.nw hS (i := 2) rfl (by omega) (by decide)) | exact Yl.load rfl rfl (by kernel_rfl) (Hp.cell mem0 rfl) | exact Yl.load rfl rfl (by kernel_rfl) (Hp.cell mem1 rfl) | exact Yl.load rfl rfl (by kernel_rfl) (Hp.cell mem2 rfl) | exact Yl.load rfl rfl (by kernel_rfl) (Hp.cell mem3 rfl) | exact Yl.load rfl rfl (by kernel_rfl) (Hp.cell mem4 rfl) | exact Yl.load rfl rfl (by kernel_rfl) (Hp.rowAt mem0 (by omega) rfl) | exact Yl.load rfl rfl (by kernel_rfl) (Hp.rowAt mem1 (by omega) rfl) | exact Yl.load rfl rfl (by kernel_rfl) (Hp.rowAt mem2 (by omega) rfl) | exact Yl.load rfl rfl (by kernel_rfl) (Hp.rowAt mem3 (by omega) rfl) | exact Yl.load rfl rfl (by kernel_rfl) (Hp.rowAt mem4 (by omega) rfl)
              refine TA.re (i := 58) (v' := .int .i64 (f c).2.1) rfl rfl ?_
              refine' TA.p (i := 11) #[true, true, true, true, true, true, true, true, true, true, true, true, false, false, false] rfl rfl rfl (by kernel_rfl) (fun _ _ _ h => h) rfl ?hy65 ?_
              case hy65 => exact Yl.val (Yl.bin rfl rfl rfl (Bin.rem _ _ _ _ (by omega))) (congrArg (Value.int .i64) (Int.tmod_eq_emod_of_nonneg hus.1))
              refine' TA.p (i := 12) #[true, true, true, true, true, true, true, true, true, true, true, true, true, false, false] rfl rfl rfl (by kernel_rfl) (fun _ _ _ h => h) rfl ?hy66 ?_
              case hy66 => first | (refine Yl.val (Yl.bin rfl rfl rfl (Bin.add _ _ _ _)) (congrArg (Value.int .i64) (i64in ?_ ?_)) <;> omega) | exact Yl.bin rfl rfl rfl (Bin.add _ _ _ _)
              refine' TA.p (i := 13) #[true, true, true, true, true, true, true, true, true, true, true, true, true, true, false] rfl rfl rfl (by kernel_rfl) (fun _ _ _ h => h) rfl ?hy67 ?_
              case hy67 => first | exact Yl.ixn rfl rfl rfl Try.underlying25 (by kernel_rfl) (by omega) | exact Yl.ixz rfl rfl rfl Try.underlying25 (by kernel_rfl) (by omega) (by omega) | exact Yl.ixcn rfl rfl rfl Try.underlying25 (by kernel_rfl) (by omega) | exact Yl.ixcz rfl rfl rfl Try.underlying25 (by kernel_rfl) (by omega) (by omega)
              refine' TA.sl (i := 14) #[true, true, true, true, true, true, true, true, true, true, true, true, true, true, true] rfl rfl (by kernel_rfl) (by decide) rfl ?hy68 ?_
              case hy68 => exact Ys.vw rfl rfl rfl (by kernel_rfl) foc0 (by omega)
              refine TA.done (by kernel_rfl) ?_
              refine TE.next ?_
              refine TC.seq ?_
              refine TC.region ?_
              refine' TL.y rfl rfl rfl ?hy69 ?_
              case hy69 => exact Yl.move rfl rfl
              refine' TL.y rfl rfl rfl ?hy70 ?_
              case hy70 => exact Yl.move rfl rfl
              refine' TL.y rfl rfl rfl ?hy71 ?_
              case hy71 => exact Yl.ixkn (k := 3) rfl rfl rfl Try.underlying22 (by kernel_rfl) (by omega)
              refine' TL.y rfl rfl rfl ?hy72 ?_
              case hy72 => first | exact Yl.field0 (k := 0) 0 rfl rfl Try.underlying38 rfl (by kernel_rfl) rfl | exact Yl.field (k := 0) 0 rfl rfl Try.underlying38 rfl (by kernel_rfl) rfl
              refine' TL.y rfl rfl rfl ?hy73 ?_
              case hy73 => first | exact Yl.load rfl rfl (by kernel_rfl) (Hp.vw mem0 (by omega)) | exact Yl.load rfl rfl (by kernel_rfl) (Hp.vw mem1 (by omega)) | exact Yl.load rfl rfl (by kernel_rfl) (Hp.vw mem2 (by omega)) | exact Yl.load rfl rfl (by kernel_rfl) (Sl.nw hS (i := 0) rfl (by omega) (by decide)) | exact Yl.load rfl rfl (by kernel_rfl) (Sl.nw hS (i := 1) rfl (by omega) (by decide)) | exact Yl.load rfl rfl (by kernel_rfl) (Sl.nw hS (i := 2) rfl (by omega) (by decide)) | exact Yl.load rfl rfl (by kernel_rfl) (Hp.cell mem0 rfl) | exact Yl.load rfl rfl (by kernel_rfl) (Hp.cell mem1 rfl) | exact Yl.load rfl rfl (by kernel_rfl) (Hp.cell mem2 rfl) | exact Yl.load rfl rfl (by kernel_rfl) (Hp.cell mem3 rfl) | exact Yl.load rfl rfl (by kernel_rfl) (Hp.cell mem4 rfl) | exact Yl.load rfl rfl (by kernel_rfl) (Hp.rowAt mem0 (by omega) rfl) | exact Yl.load rfl rfl (by kernel_rfl) (Hp.rowAt mem1 (by omega) rfl) | exact Yl.load rfl rfl (by kernel_rfl) (Hp.rowAt mem2 (by omega) rfl) | exact Yl.load rfl rfl (by kernel_rfl) (Hp.rowAt mem3 (by omega) rfl) | exact Yl.load rfl rfl (by kernel_rfl) (Hp.rowAt mem4 (by omega) rfl)
              refine TL.re (i := 66) (v' := .int .i64 (f c).1) rfl rfl ?_
              refine' TL.y rfl rfl rfl ?hy74 ?_
              case hy74 => exact Yl.bin rfl rfl rfl (Bin.geq _ _ _ _)
              refine TL.nil ?_
              refine TE.next ?_
              refine TC.cond rfl (fun hs67 => ?_) (fun hs67 => ?_)
              · skip
                (try simp only [decide_eq_true_eq, decide_eq_false_iff_not, beq_iff_eq, beq_eq_false_iff_ne, bne_iff_ne, ne_eq, bne_eq_false_iff_eq, Bool.not_eq_true', Bool.not_eq_false', Int.not_lt, Int.not_le, gt_iff_lt, ge_iff_le] at hs67)
                obtain ⟨p, hp⟩ := Int.eq_ofNat_of_zero_le (show 0 ≤ (f c).1 by omega)
                have hpc : p < c := by omega
                have hI3 := hI2.1.two (a := upI u c (u c + (f c).2.1 % 1000) c) hI2.2.2.2.1 hI2.2.2.2.2.2 hpc (v := upI (upI u c (u c + (f c).2.1 % 1000)) p (upI u c (u c + (f c).2.1 % 1000) p + upI u c (u c + (f c).2.1 % 1000) c)) (if_pos rfl) (fun j hj => if_neg hj)
                refine TC.draw (k := 21) _ [20] #[false, false, false, false, false, false, false, false, false, false, false, false, false, false, false, false, false, false, false, false, false] (by kernel_rfl) rfl rfl (fun _ h => h.drew) (fun _ h => h) ?_
                refine' TA.p (i := 0) #[true, false, false, false, false, false, false, false, false, false, false, false, false, false, false, false, false, false, false, false, false] rfl rfl rfl (by kernel_rfl) (fun _ _ _ h => h) rfl ?hy75 ?_
                case hy75 => exact Yl.move rfl rfl
                refine' TA.p (i := 1) #[true, true, false, false, false, false, false, false, false, false, false, false, false, false, false, false, false, false, false, false, false] rfl rfl rfl (by kernel_rfl) (fun _ _ _ h => h) rfl ?hy76 ?_
                case hy76 => exact Yl.move rfl rfl
                refine' TA.p (i := 2) #[true, true, true, false, false, false, false, false, false, false, false, false, false, false, false, false, false, false, false, false, false] rfl rfl rfl (by kernel_rfl) (fun _ _ _ h => h) rfl ?hy77 ?_
                case hy77 => exact Yl.move rfl rfl
                refine' TA.p (i := 3) #[true, true, true, true, false, false, false, false, false, false, false, false, false, false, false, false, false, false, false, false, false] rfl rfl rfl (by kernel_rfl) (fun _ _ _ h => h) rfl ?hy78 ?_
                case hy78 => exact Yl.ixkn (k := 3) rfl rfl rfl Try.underlying22 (by kernel_rfl) (by omega)
                refine' TA.p (i := 4) #[true, true, true, true, true, false, false, false, false, false, false, false, false, false, false, false, false, false, false, false, false] rfl rfl rfl (by kernel_rfl) (fun _ _ _ h => h) rfl ?hy79 ?_
                case hy79 => first | exact Yl.field0 (k := 0) 0 rfl rfl Try.underlying38 rfl (by kernel_rfl) rfl | exact Yl.field (k := 0) 0 rfl rfl Try.underlying38 rfl (by kernel_rfl) rfl
                refine' TA.y (i := 5) #[true, true, true, true, true, true, false, false, false, false, false, false, false, false, false, false, false, false, false, false, false] rfl rfl rfl (by kernel_rfl) (fun _ _ _ h => h) (fun _ h => by exact Hp.sub h (by repeat (first | exact List.Sublist.refl _ | apply List.Sublist.cons))) rfl ?hy80 ?_
                case hy80 => first | exact Yl.load rfl rfl (by kernel_rfl) (Hp.vw mem0 (by omega)) | exact Yl.load rfl rfl (by kernel_rfl) (Hp.vw mem1 (by omega)) | exact Yl.load rfl rfl (by kernel_rfl) (Hp.vw mem2 (by omega)) | exact Yl.load rfl rfl (by kernel_rfl) (Sl.nw hS (i := 0) rfl (by omega) (by decide)) | exact Yl.load rfl rfl (by kernel_rfl) (Sl.nw hS (i := 1) rfl (by omega) (by decide)) | exact Yl.load rfl rfl (by kernel_rfl) (Sl.nw hS (i := 2) rfl (by omega) (by decide)) | exact Yl.load rfl rfl (by kernel_rfl) (Hp.cell mem0 rfl) | exact Yl.load rfl rfl (by kernel_rfl) (Hp.cell mem1 rfl) | exact Yl.load rfl rfl (by kernel_rfl) (Hp.cell mem2 rfl) | exact Yl.load rfl rfl (by kernel_rfl) (Hp.cell mem3 rfl) | exact Yl.load rfl rfl (by kernel_rfl) (Hp.cell mem4 rfl) | exact Yl.load rfl rfl (by kernel_rfl) (Hp.rowAt mem0 (by omega) rfl) | exact Yl.load rfl rfl (by kernel_rfl) (Hp.rowAt mem1 (by omega) rfl) | exact Yl.load rfl rfl (by kernel_rfl) (Hp.rowAt mem2 (by omega) rfl) | exact Yl.load rfl rfl (by kernel_rfl) (Hp.rowAt mem3 (by omega) rfl) | exact Yl.load rfl rfl (by kernel_rfl) (Hp.rowAt mem4 (by omega) rfl)
                refine TA.re (i := 73) (v' := .int .i64 ((p : Int))) rfl (congrArg (Value.int .i64) (hp)) ?_
                refine' TA.p (i := 6) #[true, true, true, true, true, true, true, false, false, false, false, false, false, false, false, false, false, false, false, false, false] rfl rfl rfl (by kernel_rfl) (fun _ _ _ h => h) rfl ?hy81 ?_
                case hy81 => exact Yl.move rfl rfl
                refine' TA.p (i := 7) #[true, true, true, true, true, true, true, true, false, false, false, false, false, false, false, false, false, false, false, false, false] rfl rfl rfl (by kernel_rfl) (fun _ _ _ h => h) rfl ?hy82 ?_
                case hy82 => exact Yl.move rfl rfl
                refine' TA.p (i := 8) #[true, true, true, true, true, true, true, true, true, false, false, false, false, false, false, false, false, false, false, false, false] rfl rfl rfl (by kernel_rfl) (fun _ _ _ h => h) rfl ?hy83 ?_
                case hy83 => exact Yl.move rfl rfl
                refine' TA.p (i := 9) #[true, true, true, true, true, true, true, true, true, true, false, false, false, false, false, false, false, false, false, false, false] rfl rfl rfl (by kernel_rfl) (fun _ _ _ h => h) rfl ?hy84 ?_
                case hy84 => exact Yl.ixkn (k := 3) rfl rfl rfl Try.underlying22 (by kernel_rfl) (by omega)
                refine' TA.p (i := 10) #[true, true, true, true, true, true, true, true, true, true, true, false, false, false, false, false, false, false, false, false, false] rfl rfl rfl (by kernel_rfl) (fun _ _ _ h => h) rfl ?hy85 ?_
                case hy85 => first | exact Yl.field0 (k := 0) 0 rfl rfl Try.underlying38 rfl (by kernel_rfl) rfl | exact Yl.field (k := 0) 0 rfl rfl Try.underlying38 rfl (by kernel_rfl) rfl
                refine' TA.y (i := 11) #[true, true, true, true, true, true, true, true, true, true, true, true, false, false, false, false, false, false, false, false, false] rfl rfl rfl (by kernel_rfl) (fun _ _ _ h => h) (fun _ h => by exact Hp.sub h (by repeat (first | exact List.Sublist.refl _ | apply List.Sublist.cons))) rfl ?hy86 ?_
                case hy86 => first | exact Yl.load rfl rfl (by kernel_rfl) (Hp.vw mem0 (by omega)) | exact Yl.load rfl rfl (by kernel_rfl) (Hp.vw mem1 (by omega)) | exact Yl.load rfl rfl (by kernel_rfl) (Hp.vw mem2 (by omega)) | exact Yl.load rfl rfl (by kernel_rfl) (Sl.nw hS (i := 0) rfl (by omega) (by decide)) | exact Yl.load rfl rfl (by kernel_rfl) (Sl.nw hS (i := 1) rfl (by omega) (by decide)) | exact Yl.load rfl rfl (by kernel_rfl) (Sl.nw hS (i := 2) rfl (by omega) (by decide)) | exact Yl.load rfl rfl (by kernel_rfl) (Hp.cell mem0 rfl) | exact Yl.load rfl rfl (by kernel_rfl) (Hp.cell mem1 rfl) | exact Yl.load rfl rfl (by kernel_rfl) (Hp.cell mem2 rfl) | exact Yl.load rfl rfl (by kernel_rfl) (Hp.cell mem3 rfl) | exact Yl.load rfl rfl (by kernel_rfl) (Hp.cell mem4 rfl) | exact Yl.load rfl rfl (by kernel_rfl) (Hp.rowAt mem0 (by omega) rfl) | exact Yl.load rfl rfl (by kernel_rfl) (Hp.rowAt mem1 (by omega) rfl) | exact Yl.load rfl rfl (by kernel_rfl) (Hp.rowAt mem2 (by omega) rfl) | exact Yl.load rfl rfl (by kernel_rfl) (Hp.rowAt mem3 (by omega) rfl) | exact Yl.load rfl rfl (by kernel_rfl) (Hp.rowAt mem4 (by omega) rfl)
                refine TA.re (i := 79) (v' := .int .i64 ((p : Int))) rfl (congrArg (Value.int .i64) (hp)) ?_
                refine' TA.p (i := 12) #[true, true, true, true, true, true, true, true, true, true, true, true, true, false, false, false, false, false, false, false, false] rfl rfl rfl (by kernel_rfl) (fun _ _ _ h => h) rfl ?hy87 ?_
                case hy87 => first | exact Yl.ixn rfl rfl rfl Try.underlying25 (by kernel_rfl) (by omega) | exact Yl.ixz rfl rfl rfl Try.underlying25 (by kernel_rfl) (by omega) (by omega) | exact Yl.ixcn rfl rfl rfl Try.underlying25 (by kernel_rfl) (by omega) | exact Yl.ixcz rfl rfl rfl Try.underlying25 (by kernel_rfl) (by omega) (by omega)
                refine' TA.y (i := 13) #[true, true, true, true, true, true, true, true, true, true, true, true, true, true, false, false, false, false, false, false, false] rfl rfl rfl (by kernel_rfl) (fun _ _ _ h => h) (fun _ h => by exact Hp.sub h (by repeat (first | exact List.Sublist.refl _ | apply List.Sublist.cons))) rfl ?hy88 ?_
                case hy88 => first | exact Yl.load rfl rfl (by kernel_rfl) (Hp.vw mem0 (by omega)) | exact Yl.load rfl rfl (by kernel_rfl) (Hp.vw mem1 (by omega)) | exact Yl.load rfl rfl (by kernel_rfl) (Hp.vw mem2 (by omega)) | exact Yl.load rfl rfl (by kernel_rfl) (Sl.nw hS (i := 0) rfl (by omega) (by decide)) | exact Yl.load rfl rfl (by kernel_rfl) (Sl.nw hS (i := 1) rfl (by omega) (by decide)) | exact Yl.load rfl rfl (by kernel_rfl) (Sl.nw hS (i := 2) rfl (by omega) (by decide)) | exact Yl.load rfl rfl (by kernel_rfl) (Hp.cell mem0 rfl) | exact Yl.load rfl rfl (by kernel_rfl) (Hp.cell mem1 rfl) | exact Yl.load rfl rfl (by kernel_rfl) (Hp.cell mem2 rfl) | exact Yl.load rfl rfl (by kernel_rfl) (Hp.cell mem3 rfl) | exact Yl.load rfl rfl (by kernel_rfl) (Hp.cell mem4 rfl) | exact Yl.load rfl rfl (by kernel_rfl) (Hp.rowAt mem0 (by omega) rfl) | exact Yl.load rfl rfl (by kernel_rfl) (Hp.rowAt mem1 (by omega) rfl) | exact Yl.load rfl rfl (by kernel_rfl) (Hp.rowAt mem2 (by omega) rfl) | exact Yl.load rfl rfl (by kernel_rfl) (Hp.rowAt mem3 (by omega) rfl) | exact Yl.load rfl rfl (by kernel_rfl) (Hp.rowAt mem4 (by omega) rfl)
                refine' TA.p (i := 14) #[true, true, true, true, true, true, true, true, true, true, true, true, true, true, true, false, false, false, false, false, false] rfl rfl rfl (by kernel_rfl) (fun _ _ _ h => h) rfl ?hy89 ?_
                case hy89 => exact Yl.move rfl rfl
                refine' TA.p (i := 15) #[true, true, true, true, true, true, true, true, true, true, true, true, true, true, true, true, false, false, false, false, false] rfl rfl rfl (by kernel_rfl) (fun _ _ _ h => h) rfl ?hy90 ?_
                case hy90 => exact Yl.move rfl rfl
                refine' TA.p (i := 16) #[true, true, true, true, true, true, true, true, true, true, true, true, true, true, true, true, true, false, false, false, false] rfl rfl rfl (by kernel_rfl) (fun _ _ _ h => h) rfl ?hy91 ?_
                case hy91 => first | exact Yl.ixn rfl rfl rfl Try.underlying25 (by kernel_rfl) (by omega) | exact Yl.ixz rfl rfl rfl Try.underlying25 (by kernel_rfl) (by omega) (by omega) | exact Yl.ixcn rfl rfl rfl Try.underlying25 (by kernel_rfl) (by omega) | exact Yl.ixcz rfl rfl rfl Try.underlying25 (by kernel_rfl) (by omega) (by omega)
                refine' TA.y (i := 17) #[true, true, true, true, true, true, true, true, true, true, true, true, true, true, true, true, true, true, false, false, false] rfl rfl rfl (by kernel_rfl) (fun _ _ _ h => h) (fun _ h => by exact Hp.sub h (by repeat (first | exact List.Sublist.refl _ | apply List.Sublist.cons))) rfl ?hy92 ?_
                case hy92 => first | exact Yl.load rfl rfl (by kernel_rfl) (Hp.vw mem0 (by omega)) | exact Yl.load rfl rfl (by kernel_rfl) (Hp.vw mem1 (by omega)) | exact Yl.load rfl rfl (by kernel_rfl) (Hp.vw mem2 (by omega)) | exact Yl.load rfl rfl (by kernel_rfl) (Sl.nw hS (i := 0) rfl (by omega) (by decide)) | exact Yl.load rfl rfl (by kernel_rfl) (Sl.nw hS (i := 1) rfl (by omega) (by decide)) | exact Yl.load rfl rfl (by kernel_rfl) (Sl.nw hS (i := 2) rfl (by omega) (by decide)) | exact Yl.load rfl rfl (by kernel_rfl) (Hp.cell mem0 rfl) | exact Yl.load rfl rfl (by kernel_rfl) (Hp.cell mem1 rfl) | exact Yl.load rfl rfl (by kernel_rfl) (Hp.cell mem2 rfl) | exact Yl.load rfl rfl (by kernel_rfl) (Hp.cell mem3 rfl) | exact Yl.load rfl rfl (by kernel_rfl) (Hp.cell mem4 rfl) | exact Yl.load rfl rfl (by kernel_rfl) (Hp.rowAt mem0 (by omega) rfl) | exact Yl.load rfl rfl (by kernel_rfl) (Hp.rowAt mem1 (by omega) rfl) | exact Yl.load rfl rfl (by kernel_rfl) (Hp.rowAt mem2 (by omega) rfl) | exact Yl.load rfl rfl (by kernel_rfl) (Hp.rowAt mem3 (by omega) rfl) | exact Yl.load rfl rfl (by kernel_rfl) (Hp.rowAt mem4 (by omega) rfl)
                refine' TA.p (i := 18) #[true, true, true, true, true, true, true, true, true, true, true, true, true, true, true, true, true, true, true, false, false] rfl rfl rfl (by kernel_rfl) (fun _ _ _ h => h) rfl ?hy93 ?_
                case hy93 => first | (refine Yl.val (Yl.bin rfl rfl rfl (Bin.add _ _ _ _)) (congrArg (Value.int .i64) (i64in ?_ ?_)) <;> omega) | exact Yl.bin rfl rfl rfl (Bin.add _ _ _ _)
                refine' TA.p (i := 19) #[true, true, true, true, true, true, true, true, true, true, true, true, true, true, true, true, true, true, true, true, false] rfl rfl rfl (by kernel_rfl) (fun _ _ _ h => h) rfl ?hy94 ?_
                case hy94 => first | exact Yl.ixn rfl rfl rfl Try.underlying25 (by kernel_rfl) (by omega) | exact Yl.ixz rfl rfl rfl Try.underlying25 (by kernel_rfl) (by omega) (by omega) | exact Yl.ixcn rfl rfl rfl Try.underlying25 (by kernel_rfl) (by omega) | exact Yl.ixcz rfl rfl rfl Try.underlying25 (by kernel_rfl) (by omega) (by omega)
                refine' TA.sl (i := 20) #[true, true, true, true, true, true, true, true, true, true, true, true, true, true, true, true, true, true, true, true, true] rfl rfl (by kernel_rfl) (by decide) rfl ?hy95 ?_
                case hy95 => exact Ys.vw rfl rfl rfl (by kernel_rfl) foc0 (by omega)
                refine TA.done (by kernel_rfl) ?_
                refine TE.inNormal ?_
                refine TE.next ?_
                refine TC.region ?_
                refine' TL.y rfl rfl rfl ?hy96 ?_
                case hy96 => exact Yl.move rfl rfl
                refine' TL.y rfl rfl rfl ?hy97 ?_
                case hy97 => first | (refine Yl.val (Yl.bin rfl rfl rfl (Bin.sub _ _ _ _)) (congrArg (Value.int .i64) (i64in ?_ ?_)) <;> omega) | exact Yl.bin rfl rfl rfl (Bin.sub _ _ _ _)
                refine' TL.y rfl rfl rfl ?hy98 ?_
                case hy98 => exact Yl.assign rfl rfl
                refine TL.nil ?_
                refine TE.round (c, upI (upI u c (u c + (f c).2.1 % 1000)) p (upI u c (u c + (f c).2.1 % 1000) p + upI u c (u c + (f c).2.1 % 1000) c)) ?hF99 ?hlt99 ?hs99 ?hm99
                case hF99 => exact ⟨by dsimp only; omega, hI3.1⟩
                case hlt99 => dsimp only; omega
                case hs99 => exact ⟨rfl, rfl, rfl, rfl, rfl, rfl, rfl, trivial⟩
                case hm99 => exact fun _ h => h
              · skip
                (try simp only [decide_eq_true_eq, decide_eq_false_iff_not, beq_iff_eq, beq_eq_false_iff_ne, bne_iff_ne, ne_eq, bne_eq_false_iff_eq, Bool.not_eq_true', Bool.not_eq_false', Int.not_lt, Int.not_le, gt_iff_lt, ge_iff_le] at hs67)
                refine TC.skip ?_
                refine TE.inNormal ?_
                refine TE.next ?_
                refine TC.region ?_
                refine' TL.y rfl rfl rfl ?hy100 ?_
                case hy100 => exact Yl.move rfl rfl
                refine' TL.y rfl rfl rfl ?hy101 ?_
                case hy101 => first | (refine Yl.val (Yl.bin rfl rfl rfl (Bin.sub _ _ _ _)) (congrArg (Value.int .i64) (i64in ?_ ?_)) <;> omega) | exact Yl.bin rfl rfl rfl (Bin.sub _ _ _ _)
                refine' TL.y rfl rfl rfl ?hy102 ?_
                case hy102 => exact Yl.assign rfl rfl
                refine TL.nil ?_
                refine TE.round (c, upI u c (u c + (f c).2.1 % 1000)) ?hF103 ?hlt103 ?hs103 ?hm103
                case hF103 => exact ⟨by dsimp only; omega, hI2.1⟩
                case hlt103 => dsimp only; omega
                case hs103 => exact ⟨rfl, rfl, rfl, rfl, rfl, rfl, rfl, trivial⟩
                case hm103 => exact fun _ h => h
            · skip
              (try simp only [decide_eq_true_eq, decide_eq_false_iff_not, beq_iff_eq, beq_eq_false_iff_ne, bne_iff_ne, ne_eq, bne_eq_false_iff_eq, Bool.not_eq_true', Bool.not_eq_false', Int.not_lt, Int.not_le, gt_iff_lt, ge_iff_le] at hs45)
              obtain rfl : c = 0 := by omega
              have hv1 : Vld m (fun j => ((f j).1, (f j).2.1, 0)) := hv.asks0
              have hv2 : Vld m (fun j => ((f j).1, u j, u j)) := hI.vld hv
              refine TC.exit ?_
              refine TE.thenExit ?_
              refine TE.thenExit ?_
              refine TE.inHere ?_
              refine TE.next ?_
              refine TC.seq ?_
              refine TC.seq ?_
              refine TC.region ?_
              refine' TL.y rfl rfl rfl ?hy104 ?_
              case hy104 => exact Yl.assign rfl rfl
              refine TL.nil ?_
              refine TE.next ?_
              refine TC.block ?_
              refine TC.loop (σ := Nat × Value × Value) (fun s => [(0, .slice (some ⟨b, o, none⟩) m cp), (1, .int .i64 t), (5, .bool true), (6, s.2.1), (7, s.2.2), (8, .slice (some ⟨b40, 0, none⟩) m m), (10, .int .i64 (s.1 : Int))]) (fun s => Hp W (fun _ => False) [ownR 3 1 (.slice (some ⟨b40, 0, none⟩) m m) (m) (Vw (m) (u)), ownR 38 3 (s.2.2) (s.1) (Nw (s.1) (fun j => ((f j).1, u j, u j))), ownR 38 3 (s.2.1) (s.1) (Nw (s.1) (fun j => ((f j).1, (f j).2.1, 0)))]) (fun s => s.1 ≤ m) (fun s => m - s.1) (0, .slice none 0 0, .slice none 0 0) ?hF105 ?hs105 ?hm105 ?round105
              case hF105 => exact Nat.zero_le _
              case hs105 => exact ⟨rfl, rfl, rfl, rfl, rfl, rfl, rfl, trivial⟩
              case hm105 => exact fun w h => by dsimp only; rw [Nw_zero, Nw_zero]; exact h
              case round105 =>
                rintro ⟨i, v6, v7⟩ hi
                dsimp only at hi ⊢
                refine TC.seq ?_
                refine TC.seq ?_
                refine TC.region ?_
                refine' TL.y rfl rfl rfl ?hy106 ?_
                case hy106 => exact Yl.move rfl rfl
                refine' TL.y rfl rfl rfl ?hy107 ?_
                case hy107 => exact Yl.move rfl rfl
                refine' TL.y rfl rfl rfl ?hy108 ?_
                case hy108 => exact Yl.len rfl rfl Try.underlying22
                refine' TL.y rfl rfl rfl ?hy109 ?_
                case hy109 => exact Yl.bin rfl rfl rfl (Bin.lss _ _ _ _)
                refine TL.nil ?_
                refine TE.next ?_
                refine TC.cond rfl (fun hs91 => ?_) (fun hs91 => ?_)
                · skip
                  (try simp only [decide_eq_true_eq, decide_eq_false_iff_not, beq_iff_eq, beq_eq_false_iff_ne, bne_iff_ne, ne_eq, bne_eq_false_iff_eq, Bool.not_eq_true', Bool.not_eq_false', Int.not_lt, Int.not_le, gt_iff_lt, ge_iff_le] at hs91)
                  refine TC.skip ?_
                  refine TE.next ?_
                  refine TC.seq ?_
                  refine TC.block ?_
                  refine TC.seq ?_
                  refine TC.draw (k := 15) (Hp W (fun _ => False) []) [] #[false, false, false, false, false, false, false, false, false, false, false, false, false, false, false] (by kernel_rfl) rfl rfl (fun _ h => h.drew) (fun _ h => h.sub (List.nil_sublist _)) ?_
                  refine' TA.y (i := 0) #[true, false, false, false, false, false, false, false, false, false, false, false, false, false, false] rfl rfl rfl (by kernel_rfl) (fun _ _ _ h => h) (fun _ h => by exact Hp.sub h (by repeat (first | exact List.Sublist.refl _ | apply List.Sublist.cons))) rfl ?hy110 ?_
                  case hy110 => exact Yl.move rfl rfl
                  refine' TA.y (i := 1) #[true, true, false, false, false, false, false, false, false, false, false, false, false, false, false] rfl rfl rfl (by kernel_rfl) (fun _ _ _ h => h) (fun _ h => by exact Hp.sub h (by repeat (first | exact List.Sublist.refl _ | apply List.Sublist.cons))) rfl ?hy111 ?_
                  case hy111 => exact Yl.move rfl rfl
                  refine' TA.y (i := 2) #[true, true, true, false, false, false, false, false, false, false, false, false, false, false, false] rfl rfl rfl (by kernel_rfl) (fun _ _ _ h => h) (fun _ h => by exact Hp.sub h (by repeat (first | exact List.Sublist.refl _ | apply List.Sublist.cons))) rfl ?hy112 ?_
                  case hy112 => exact Yl.move rfl rfl
                  refine' TA.y (i := 3) #[true, true, true, true, false, false, false, false, false, false, false, false, false, false, false] rfl rfl rfl (by kernel_rfl) (fun _ _ _ h => h) (fun _ h => by exact Hp.sub h (by repeat (first | exact List.Sublist.refl _ | apply List.Sublist.cons))) rfl ?hy113 ?_
                  case hy113 => exact Yl.ixkn (k := 3) rfl rfl rfl Try.underlying22 (by kernel_rfl) (by omega)
                  refine' TA.y (i := 4) #[true, true, true, true, true, false, false, false, false, false, false, false, false, false, false] rfl rfl rfl (by kernel_rfl) (fun _ _ _ h => h) (fun _ h => by exact Hp.sub h (by repeat (first | exact List.Sublist.refl _ | apply List.Sublist.cons))) rfl ?hy114 ?_
                  case hy114 => first | exact Yl.field0 (k := 0) 0 rfl rfl Try.underlying38 rfl (by kernel_rfl) rfl | exact Yl.field (k := 0) 0 rfl rfl Try.underlying38 rfl (by kernel_rfl) rfl
                  refine' TA.y (i := 5) #[true, true, true, true, true, true, false, false, false, false, false, false, false, false, false] rfl rfl rfl (by kernel_rfl) (fun _ _ _ h => h) (fun _ h => by exact Hp.sub h (by repeat (first | exact List.Sublist.refl _ | apply List.Sublist.cons))) rfl ?hy115 ?_
                  case hy115 => first | exact Yl.load rfl rfl (by kernel_rfl) (Hp.vw mem0 (by omega)) | exact Yl.load rfl rfl (by kernel_rfl) (Hp.vw mem1 (by omega)) | exact Yl.load rfl rfl (by kernel_rfl) (Hp.vw mem2 (by omega)) | exact Yl.load rfl rfl (by kernel_rfl) (Sl.nw hS (i := 0) rfl (by omega) (by decide)) | exact Yl.load rfl rfl (by kernel_rfl) (Sl.nw hS (i := 1) rfl (by omega) (by decide)) | exact Yl.load rfl rfl (by kernel_rfl) (Sl.nw hS (i := 2) rfl (by omega) (by decide)) | exact Yl.load rfl rfl (by kernel_rfl) (Hp.cell mem0 rfl) | exact Yl.load rfl rfl (by kernel_rfl) (Hp.cell mem1 rfl) | exact Yl.load rfl rfl (by kernel_rfl) (Hp.cell mem2 rfl) | exact Yl.load rfl rfl (by kernel_rfl) (Hp.cell mem3 rfl) | exact Yl.load rfl rfl (by kernel_rfl) (Hp.cell mem4 rfl) | exact Yl.load rfl rfl (by kernel_rfl) (Hp.rowAt mem0 (by omega) rfl) | exact Yl.load rfl rfl (by kernel_rfl) (Hp.rowAt mem1 (by omega) rfl) | exact Yl.load rfl rfl (by kernel_rfl) (Hp.rowAt mem2 (by omega) rfl) | exact Yl.load rfl rfl (by kernel_rfl) (Hp.rowAt mem3 (by omega) rfl) | exact Yl.load rfl rfl (by kernel_rfl) (Hp.rowAt mem4 (by omega) rfl)
                  refine TA.re (i := 99) (v' := .int .i64 (f i).1) rfl rfl ?_
                  refine' TA.y (i := 6) #[true, true, true, true, true, true, true, false, false, false, false, false, false, false, false] rfl rfl rfl (by kernel_rfl) (fun _ _ _ h => h) (fun _ h => by exact Hp.sub h (by repeat (first | exact List.Sublist.refl _ | apply List.Sublist.cons))) rfl ?hy116 ?_
                  case hy116 => exact Yl.move rfl rfl
                  refine' TA.y (i := 7) #[true, true, true, true, true, true, true, true, false, false, false, false, false, false, false] rfl rfl rfl (by kernel_rfl) (fun _ _ _ h => h) (fun _ h => by exact Hp.sub h (by repeat (first | exact List.Sublist.refl _ | apply List.Sublist.cons))) rfl ?hy117 ?_
                  case hy117 => exact Yl.move rfl rfl
                  refine' TA.y (i := 8) #[true, true, true, true, true, true, true, true, true, false, false, false, false, false, false] rfl rfl rfl (by kernel_rfl) (fun _ _ _ h => h) (fun _ h => by exact Hp.sub h (by repeat (first | exact List.Sublist.refl _ | apply List.Sublist.cons))) rfl ?hy118 ?_
                  case hy118 => exact Yl.ixkn (k := 3) rfl rfl rfl Try.underlying22 (by kernel_rfl) (by omega)
                  refine' TA.y (i := 9) #[true, true, true, true, true, true, true, true, true, true, false, false, false, false, false] rfl rfl rfl (by kernel_rfl) (fun _ _ _ h => h) (fun _ h => by exact Hp.sub h (by repeat (first | exact List.Sublist.refl _ | apply List.Sublist.cons))) rfl ?hy119 ?_
                  case hy119 => first | exact Yl.field0 (k := 0) 1 rfl rfl Try.underlying38 rfl (by kernel_rfl) rfl | exact Yl.field (k := 0) 1 rfl rfl Try.underlying38 rfl (by kernel_rfl) rfl
                  refine' TA.y (i := 10) #[true, true, true, true, true, true, true, true, true, true, true, false, false, false, false] rfl rfl rfl (by kernel_rfl) (fun _ _ _ h => h) (fun _ h => by exact Hp.sub h (by repeat (first | exact List.Sublist.refl _ | apply List.Sublist.cons))) rfl ?hy120 ?_
                  case hy120 => first | exact Yl.load rfl rfl (by kernel_rfl) (Hp.vw mem0 (by omega)) | exact Yl.load rfl rfl (by kernel_rfl) (Hp.vw mem1 (by omega)) | exact Yl.load rfl rfl (by kernel_rfl) (Hp.vw mem2 (by omega)) | exact Yl.load rfl rfl (by kernel_rfl) (Sl.nw hS (i := 0) rfl (by omega) (by decide)) | exact Yl.load rfl rfl (by kernel_rfl) (Sl.nw hS (i := 1) rfl (by omega) (by decide)) | exact Yl.load rfl rfl (by kernel_rfl) (Sl.nw hS (i := 2) rfl (by omega) (by decide)) | exact Yl.load rfl rfl (by kernel_rfl) (Hp.cell mem0 rfl) | exact Yl.load rfl rfl (by kernel_rfl) (Hp.cell mem1 rfl) | exact Yl.load rfl rfl (by kernel_rfl) (Hp.cell mem2 rfl) | exact Yl.load rfl rfl (by kernel_rfl) (Hp.cell mem3 rfl) | exact Yl.load rfl rfl (by kernel_rfl) (Hp.cell mem4 rfl) | exact Yl.load rfl rfl (by kernel_rfl) (Hp.rowAt mem0 (by omega) rfl) | exact Yl.load rfl rfl (by kernel_rfl) (Hp.rowAt mem1 (by omega) rfl) | exact Yl.load rfl rfl (by kernel_rfl) (Hp.rowAt mem2 (by omega) rfl) | exact Yl.load rfl rfl (by kernel_rfl) (Hp.rowAt mem3 (by omega) rfl) | exact Yl.load rfl rfl (by kernel_rfl) (Hp.rowAt mem4 (by omega) rfl)
                  refine TA.re (i := 104) (v' := .int .i64 (f i).2.1) rfl rfl ?_
                  refine' TA.y (i := 11) #[true, true, true, true, true, true, true, true, true, true, true, true, false, false, false] rfl rfl rfl (by kernel_rfl) (fun _ _ _ h => h) (fun _ h => by exact Hp.sub h (by repeat (first | exact List.Sublist.refl _ | apply List.Sublist.cons))) rfl ?hy121 ?_
                  case hy121 => exact Yl.build (z := .agg #[.int .i64 0, .int .i64 0, .int .i64 0]) [(0, 1), (1, 1), (2, 1)] rfl (by kernel_rfl) Try.underlying38 (by kernel_rfl) rfl rfl
                  refine TA.re (i := 105) (v' := .agg #[.int .i64 (f i).1, .int .i64 (f i).2.1, .int .i64 0]) rfl rfl ?_
                  refine' TA.mx (i := 12) #[true, true, true, true, true, true, true, true, true, true, true, true, true, false, false] rfl rfl rfl (by kernel_rfl) (by decide) rfl ?hy122 ?hz122 ?_
                  case hy122 => exact Ym.buildSlice (cells := #[.int .i64 (f i).1, .int .i64 (f i).2.1, .int .i64 0]) (z := .agg #[.int .i64 0, .int .i64 0, .int .i64 0]) (size := 3) #[.int .i64 0, .int .i64 0, .int .i64 0] rfl Try.underlying22 (by kernel_rfl) (by decide) (by decide) (by kernel_rfl) rfl rfl
                  case hz122 => exact (fun _ _ h => by exact Hp.sub h (by repeat (first | exact List.Sublist.refl _ | exact List.nil_sublist _ | apply List.Sublist.cons_cons | apply List.Sublist.cons)))
                  intro b106
                  refine' TA.mx (i := 13) #[true, true, true, true, true, true, true, true, true, true, true, true, true, true, false] rfl rfl rfl (by kernel_rfl) (by decide) rfl ?hy123 ?hz123 ?_
                  case hy123 => exact Ym.append (news := [.int .i64 (f i).1, .int .i64 (f i).2.1, .int .i64 0]) rfl Try.underlying22 (by kernel_rfl) (z := .agg #[.int .i64 0, .int .i64 0, .int .i64 0]) (size := 3) (bytes := 24) rfl (by decide) (by decide) rfl rfl rfl (Hp.cells mem0 (fun j v hj => by simpa using hj)) (by simp [Value.oneCell']) (by omega) (fun v' => foc3)
                  case hz123 => exact (fun _ _ h => by exact Hp.sub h (by repeat (first | exact List.Sublist.refl _ | exact List.nil_sublist _ | apply List.Sublist.cons_cons | apply List.Sublist.cons)))
                  intro v107
                  refine' TA.y (i := 14) #[true, true, true, true, true, true, true, true, true, true, true, true, true, true, true] rfl rfl rfl (by kernel_rfl) (fun _ _ _ h => h) (fun _ h => by exact Hp.sub h (by repeat (first | exact List.Sublist.refl _ | apply List.Sublist.cons))) rfl ?hy124 ?_
                  case hy124 => exact Yl.assign rfl rfl
                  refine TA.done (by kernel_rfl) ?_
                  refine TE.next ?_
                  refine TC.draw (k := 18) (Hp W (fun _ => False) [ownR 3 1 (.slice (some ⟨b40, 0, none⟩) m m) (m) (Vw (m) (u))]) [] #[false, false, false, false, false, false, false, false, false, false, false, false, false, false, false, false, false, false] (by kernel_rfl) rfl rfl (fun _ h => h.drew) (fun _ h => by exact Hp.sub h (by repeat (first | exact List.Sublist.refl _ | exact List.nil_sublist _ | apply List.Sublist.cons_cons | apply List.Sublist.cons))) ?_
                  refine' TA.y (i := 0) #[true, false, false, false, false, false, false, false, false, false, false, false, false, false, false, false, false, false] rfl rfl rfl (by kernel_rfl) (fun _ _ _ h => h) (fun _ h => by exact Hp.sub h (by repeat (first | exact List.Sublist.refl _ | exact List.nil_sublist _ | apply List.Sublist.cons_cons | apply List.Sublist.cons))) rfl ?hy125 ?_
                  case hy125 => exact Yl.move rfl rfl
                  refine' TA.y (i := 1) #[true, true, false, false, false, false, false, false, false, false, false, false, false, false, false, false, false, false] rfl rfl rfl (by kernel_rfl) (fun _ _ _ h => h) (fun _ h => by exact Hp.sub h (by repeat (first | exact List.Sublist.refl _ | exact List.nil_sublist _ | apply List.Sublist.cons_cons | apply List.Sublist.cons))) rfl ?hy126 ?_
                  case hy126 => exact Yl.move rfl rfl
                  refine' TA.y (i := 2) #[true, true, true, false, false, false, false, false, false, false, false, false, false, false, false, false, false, false] rfl rfl rfl (by kernel_rfl) (fun _ _ _ h => h) (fun _ h => by exact Hp.sub h (by repeat (first | exact List.Sublist.refl _ | exact List.nil_sublist _ | apply List.Sublist.cons_cons | apply List.Sublist.cons))) rfl ?hy127 ?_
                  case hy127 => exact Yl.move rfl rfl
                  refine' TA.y (i := 3) #[true, true, true, true, false, false, false, false, false, false, false, false, false, false, false, false, false, false] rfl rfl rfl (by kernel_rfl) (fun _ _ _ h => h) (fun _ h => by exact Hp.sub h (by repeat (first | exact List.Sublist.refl _ | exact List.nil_sublist _ | apply List.Sublist.cons_cons | apply List.Sublist.cons))) rfl ?hy128 ?_
                  case hy128 => exact Yl.ixkn (k := 3) rfl rfl rfl Try.underlying22 (by kernel_rfl) (by omega)
                  refine' TA.y (i := 4) #[true, true, true, true, true, false, false, false, false, false, false, false, false, false, false, false, false, false] rfl rfl rfl (by kernel_rfl) (fun _ _ _ h => h) (fun _ h => by exact Hp.sub h (by repeat (first | exact List.Sublist.refl _ | exact List.nil_sublist _ | apply List.Sublist.cons_cons | apply List.Sublist.cons))) rfl ?hy129 ?_
                  case hy129 => first | exact Yl.field0 (k := 0) 0 rfl rfl Try.underlying38 rfl (by kernel_rfl) rfl | exact Yl.field (k := 0) 0 rfl rfl Try.underlying38 rfl (by kernel_rfl) rfl
                  refine' TA.y (i := 5) #[true, true, true, true, true, true, false, false, false, false, false, false, false, false, false, false, false, false] rfl rfl rfl (by kernel_rfl) (fun _ _ _ h => h) (fun _ h => by exact Hp.sub h (by repeat (first | exact List.Sublist.refl _ | exact List.nil_sublist _ | apply List.Sublist.cons_cons | apply List.Sublist.cons))) rfl ?hy130 ?_
                  case hy130 => first | exact Yl.load rfl rfl (by kernel_rfl) (Hp.vw mem0 (by omega)) | exact Yl.load rfl rfl (by kernel_rfl) (Hp.vw mem1 (by omega)) | exact Yl.load rfl rfl (by kernel_rfl) (Hp.vw mem2 (by omega)) | exact Yl.load rfl rfl (by kernel_rfl) (Sl.nw hS (i := 0) rfl (by omega) (by decide)) | exact Yl.load rfl rfl (by kernel_rfl) (Sl.nw hS (i := 1) rfl (by omega) (by decide)) | exact Yl.load rfl rfl (by kernel_rfl) (Sl.nw hS (i := 2) rfl (by omega) (by decide)) | exact Yl.load rfl rfl (by kernel_rfl) (Hp.cell mem0 rfl) | exact Yl.load rfl rfl (by kernel_rfl) (Hp.cell mem1 rfl) | exact Yl.load rfl rfl (by kernel_rfl) (Hp.cell mem2 rfl) | exact Yl.load rfl rfl (by kernel_rfl) (Hp.cell mem3 rfl) | exact Yl.load rfl rfl (by kernel_rfl) (Hp.cell mem4 rfl) | exact Yl.load rfl rfl (by kernel_rfl) (Hp.rowAt mem0 (by omega) rfl) | exact Yl.load rfl rfl (by kernel_rfl) (Hp.rowAt mem1 (by omega) rfl) | exact Yl.load rfl rfl (by kernel_rfl) (Hp.rowAt mem2 (by omega) rfl) | exact Yl.load rfl rfl (by kernel_rfl) (Hp.rowAt mem3 (by omega) rfl) | exact Yl.load rfl rfl (by kernel_rfl) (Hp.rowAt mem4 (by omega) rfl)
                  refine TA.re (i := 113) (v' := .int .i64 (f i).1) rfl rfl ?_
                  refine' TA.y (i := 6) #[true, true, true, true, true, true, true, false, false, false, false, false, false, false, false, false, false, false] rfl rfl rfl (by kernel_rfl) (fun _ _ _ h => h) (fun _ h => by exact Hp.sub h (by repeat (first | exact List.Sublist.refl _ | exact List.nil_sublist _ | apply List.Sublist.cons_cons | apply List.Sublist.cons))) rfl ?hy131 ?_
                  case hy131 => exact Yl.move rfl rfl
                  refine' TA.y (i := 7) #[true, true, true, true, true, true, true, true, false, false, false, false, false, false, false, false, false, false] rfl rfl rfl (by kernel_rfl) (fun _ _ _ h => h) (fun _ h => by exact Hp.sub h (by repeat (first | exact List.Sublist.refl _ | exact List.nil_sublist _ | apply List.Sublist.cons_cons | apply List.Sublist.cons))) rfl ?hy132 ?_
                  case hy132 => exact Yl.move rfl rfl
                  refine' TA.y (i := 8) #[true, true, true, true, true, true, true, true, true, false, false, false, false, false, false, false, false, false] rfl rfl rfl (by kernel_rfl) (fun _ _ _ h => h) (fun _ h => by exact Hp.sub h (by repeat (first | exact List.Sublist.refl _ | exact List.nil_sublist _ | apply List.Sublist.cons_cons | apply List.Sublist.cons))) rfl ?hy133 ?_
                  case hy133 => first | exact Yl.ixn rfl rfl rfl Try.underlying25 (by kernel_rfl) (by omega) | exact Yl.ixz rfl rfl rfl Try.underlying25 (by kernel_rfl) (by omega) (by omega) | exact Yl.ixcn rfl rfl rfl Try.underlying25 (by kernel_rfl) (by omega) | exact Yl.ixcz rfl rfl rfl Try.underlying25 (by kernel_rfl) (by omega) (by omega)
                  refine' TA.y (i := 9) #[true, true, true, true, true, true, true, true, true, true, false, false, false, false, false, false, false, false] rfl rfl rfl (by kernel_rfl) (fun _ _ _ h => h) (fun _ h => by exact Hp.sub h (by repeat (first | exact List.Sublist.refl _ | exact List.nil_sublist _ | apply List.Sublist.cons_cons | apply List.Sublist.cons))) rfl ?hy134 ?_
                  case hy134 => first | exact Yl.load rfl rfl (by kernel_rfl) (Hp.vw mem0 (by omega)) | exact Yl.load rfl rfl (by kernel_rfl) (Hp.vw mem1 (by omega)) | exact Yl.load rfl rfl (by kernel_rfl) (Hp.vw mem2 (by omega)) | exact Yl.load rfl rfl (by kernel_rfl) (Sl.nw hS (i := 0) rfl (by omega) (by decide)) | exact Yl.load rfl rfl (by kernel_rfl) (Sl.nw hS (i := 1) rfl (by omega) (by decide)) | exact Yl.load rfl rfl (by kernel_rfl) (Sl.nw hS (i := 2) rfl (by omega) (by decide)) | exact Yl.load rfl rfl (by kernel_rfl) (Hp.cell mem0 rfl) | exact Yl.load rfl rfl (by kernel_rfl) (Hp.cell mem1 rfl) | exact Yl.load rfl rfl (by kernel_rfl) (Hp.cell mem2 rfl) | exact Yl.load rfl rfl (by kernel_rfl) (Hp.cell mem3 rfl) | exact Yl.load rfl rfl (by kernel_rfl) (Hp.cell mem4 rfl) | exact Yl.load rfl rfl (by kernel_rfl) (Hp.rowAt mem0 (by omega) rfl) | exact Yl.load rfl rfl (by kernel_rfl) (Hp.rowAt mem1 (by omega) rfl) | exact Yl.load rfl rfl (by kernel_rfl) (Hp.rowAt mem2 (by omega) rfl) | exact Yl.load rfl rfl (by kernel_rfl) (Hp.rowAt mem3 (by omega) rfl) | exact Yl.load rfl rfl (by kernel_rfl) (Hp.rowAt mem4 (by omega) rfl)
                  refine' TA.y (i := 10) #[true, true, true, true, true, true, true, true, true, true, true, false, false, false, false, false, false, false] rfl rfl rfl (by kernel_rfl) (fun _ _ _ h => h) (fun _ h => by exact Hp.sub h (by repeat (first | exact List.Sublist.refl _ | exact List.nil_sublist _ | apply List.Sublist.cons_cons | apply List.Sublist.cons))) rfl ?hy135 ?_
                  case hy135 => exact Yl.move rfl rfl
                  refine' TA.y (i := 11) #[true, true, true, true, true, true, true, true, true, true, true, true, false, false, false, false, false, false] rfl rfl rfl (by kernel_rfl) (fun _ _ _ h => h) (fun _ h => by exact Hp.sub h (by repeat (first | exact List.Sublist.refl _ | exact List.nil_sublist _ | apply List.Sublist.cons_cons | apply List.Sublist.cons))) rfl ?hy136 ?_
                  case hy136 => exact Yl.move rfl rfl
                  refine' TA.y (i := 12) #[true, true, true, true, true, true, true, true, true, true, true, true, true, false, false, false, false, false] rfl rfl rfl (by kernel_rfl) (fun _ _ _ h => h) (fun _ h => by exact Hp.sub h (by repeat (first | exact List.Sublist.refl _ | exact List.nil_sublist _ | apply List.Sublist.cons_cons | apply List.Sublist.cons))) rfl ?hy137 ?_
                  case hy137 => first | exact Yl.ixn rfl rfl rfl Try.underlying25 (by kernel_rfl) (by omega) | exact Yl.ixz rfl rfl rfl Try.underlying25 (by kernel_rfl) (by omega) (by omega) | exact Yl.ixcn rfl rfl rfl Try.underlying25 (by kernel_rfl) (by omega) | exact Yl.ixcz rfl rfl rfl Try.underlying25 (by kernel_rfl) (by omega) (by omega)
                  refine' TA.y (i := 13) #[true, true, true, true, true, true, true, true, true, true, true, true, true, true, false, false, false, false] rfl rfl rfl (by kernel_rfl) (fun _ _ _ h => h) (fun _ h => by exact Hp.sub h (by repeat (first | exact List.Sublist.refl _ | exact List.nil_sublist _ | apply List.Sublist.cons_cons | apply List.Sublist.cons))) rfl ?hy138 ?_
                  case hy138 => first | exact Yl.load rfl rfl (by kernel_rfl) (Hp.vw mem0 (by omega)) | exact Yl.load rfl rfl (by kernel_rfl) (Hp.vw mem1 (by omega)) | exact Yl.load rfl rfl (by kernel_rfl) (Hp.vw mem2 (by omega)) | exact Yl.load rfl rfl (by kernel_rfl) (Sl.nw hS (i := 0) rfl (by omega) (by decide)) | exact Yl.load rfl rfl (by kernel_rfl) (Sl.nw hS (i := 1) rfl (by omega) (by decide)) | exact Yl.load rfl rfl (by kernel_rfl) (Sl.nw hS (i := 2) rfl (by omega) (by decide)) | exact Yl.load rfl rfl (by kernel_rfl) (Hp.cell mem0 rfl) | exact Yl.load rfl rfl (by kernel_rfl) (Hp.cell mem1 rfl) | exact Yl.load rfl rfl (by kernel_rfl) (Hp.cell mem2 rfl) | exact Yl.load rfl rfl (by kernel_rfl) (Hp.cell mem3 rfl) | exact Yl.load rfl rfl (by kernel_rfl) (Hp.cell mem4 rfl) | exact Yl.load rfl rfl (by kernel_rfl) (Hp.rowAt mem0 (by omega) rfl) | exact Yl.load rfl rfl (by kernel_rfl) (Hp.rowAt mem1 (by omega) rfl) | exact Yl.load rfl rfl (by kernel_rfl) (Hp.rowAt mem2 (by omega) rfl) | exact Yl.load rfl rfl (by kernel_rfl) (Hp.rowAt mem3 (by omega) rfl) | exact Yl.load rfl rfl (by kernel_rfl) (Hp.rowAt mem4 (by omega) rfl)
                  refine' TA.y (i := 14) #[true, true, true, true, true, true, true, true, true, true, true, true, true, true, true, false, false, false] rfl rfl rfl (by kernel_rfl) (fun _ _ _ h => h) (fun _ h => by exact Hp.sub h (by repeat (first | exact List.Sublist.refl _ | exact List.nil_sublist _ | apply List.Sublist.cons_cons | apply List.Sublist.cons))) rfl ?hy139 ?_
                  case hy139 => exact Yl.build (z := .agg #[.int .i64 0, .int .i64 0, .int .i64 0]) [(0, 1), (1, 1), (2, 1)] rfl (by kernel_rfl) Try.underlying38 (by kernel_rfl) rfl rfl
                  refine TA.re (i := 122) (v' := .agg #[.int .i64 (f i).1, .int .i64 (u i), .int .i64 (u i)]) rfl rfl ?_
                  refine' TA.mx (i := 15) #[true, true, true, true, true, true, true, true, true, true, true, true, true, true, true, true, false, false] rfl rfl rfl (by kernel_rfl) (by decide) rfl ?hy140 ?hz140 ?_
                  case hy140 => exact Ym.buildSlice (cells := #[.int .i64 (f i).1, .int .i64 (u i), .int .i64 (u i)]) (z := .agg #[.int .i64 0, .int .i64 0, .int .i64 0]) (size := 3) #[.int .i64 0, .int .i64 0, .int .i64 0] rfl Try.underlying22 (by kernel_rfl) (by decide) (by decide) (by kernel_rfl) rfl rfl
                  case hz140 => exact (fun _ _ h => by exact Hp.sub h (by repeat (first | exact List.Sublist.refl _ | exact List.nil_sublist _ | apply List.Sublist.cons_cons | apply List.Sublist.cons)))
                  intro b123
                  refine' TA.mx (i := 16) #[true, true, true, true, true, true, true, true, true, true, true, true, true, true, true, true, true, false] rfl rfl rfl (by kernel_rfl) (by decide) rfl ?hy141 ?hz141 ?_
                  case hy141 => exact Ym.append (news := [.int .i64 (f i).1, .int .i64 (u i), .int .i64 (u i)]) rfl Try.underlying22 (by kernel_rfl) (z := .agg #[.int .i64 0, .int .i64 0, .int .i64 0]) (size := 3) (bytes := 24) rfl (by decide) (by decide) rfl rfl rfl (Hp.cells mem0 (fun j v hj => by simpa using hj)) (by simp [Value.oneCell']) (by omega) (fun v' => foc3)
                  case hz141 => exact (fun _ _ h => by exact Hp.sub h (by repeat (first | exact List.Sublist.refl _ | exact List.nil_sublist _ | apply List.Sublist.cons_cons | apply List.Sublist.cons)))
                  intro v124
                  refine' TA.y (i := 17) #[true, true, true, true, true, true, true, true, true, true, true, true, true, true, true, true, true, true] rfl rfl rfl (by kernel_rfl) (fun _ _ _ h => h) (fun _ h => by exact Hp.sub h (by repeat (first | exact List.Sublist.refl _ | exact List.nil_sublist _ | apply List.Sublist.cons_cons | apply List.Sublist.cons))) rfl ?hy142 ?_
                  case hy142 => exact Yl.assign rfl rfl
                  refine TA.done (by kernel_rfl) ?_
                  refine TE.inNormal ?_
                  refine TE.next ?_
                  refine TC.region ?_
                  refine' TL.y rfl rfl rfl ?hy143 ?_
                  case hy143 => exact Yl.move rfl rfl
                  refine' TL.y rfl rfl rfl ?hy144 ?_
                  case hy144 => first | (refine Yl.val (Yl.bin rfl rfl rfl (Bin.add _ _ _ _)) (congrArg (Value.int .i64) (i64in ?_ ?_)) <;> omega) | exact Yl.bin rfl rfl rfl (Bin.add _ _ _ _)
                  refine' TL.y rfl rfl rfl ?hy145 ?_
                  case hy145 => exact Yl.assign rfl rfl
                  refine TL.nil ?_
                  refine TE.round (i + 1, v107, v124) ?hF146 ?hlt146 ?hs146 ?hm146
                  case hF146 => dsimp only; omega
                  case hlt146 => dsimp only; omega
                  case hs146 => exact ⟨rfl, rfl, rfl, rfl, rfl, rfl, rfl, trivial⟩
                  case hm146 => exact (fun w h => by
                    dsimp only
                    rw [Nw_succ, Nw_succ]
                    exact h.sub (by repeat (first | exact List.Sublist.refl _ | apply List.Sublist.cons_cons | apply List.Sublist.cons)))
                · skip
                  (try simp only [decide_eq_true_eq, decide_eq_false_iff_not, beq_iff_eq, beq_eq_false_iff_ne, bne_iff_ne, ne_eq, bne_eq_false_iff_eq, Bool.not_eq_true', Bool.not_eq_false', Int.not_lt, Int.not_le, gt_iff_lt, ge_iff_le] at hs91)
                  obtain rfl : m = i := by omega
                  refine TC.fact (fun w h => h.ownSl mem1) ?_
                  rintro ⟨A7, c7, rfl⟩
                  refine TC.fact (fun w h => h.ownSl mem2) ?_
                  rintro ⟨A6, c6, rfl⟩
                  refine TC.exit ?_
                  refine TE.thenExit ?_
                  refine TE.thenExit ?_
                  refine TE.inHere ?_
                  refine TE.next ?_
                  refine TC.seq ?_
                  refine TC.region ?_
                  refine' TL.y rfl rfl rfl ?hy147 ?_
                  case hy147 => exact Yl.move rfl rfl
                  refine' TL.y rfl rfl rfl ?hy148 ?_
                  case hy148 => exact Yl.move rfl rfl
                  refine' TL.c rfl rfl rfl ?hy149 ?_
                  case hy149 => exact Yc.call rfl Try.func11 (by kernel_rfl) rfl rfl (Hp.news (fun w h => k_eff w (Hp.ownNw mem2 w h) (by omega) (Hp.ownCap mem2 w h) t))
                  intro v127
                  rw [lenE_ok hv1 ht0 ht1]
                  refine TL.fact (fun w h => h.ownSl mem0) ?_
                  rintro ⟨A127, c127, rfl⟩
                  refine' TL.y rfl rfl rfl ?hy150 ?_
                  case hy150 => exact Yl.assign rfl rfl
                  refine TL.nil ?_
                  refine TE.next ?_
                  refine TC.seq ?_
                  refine TC.region ?_
                  refine' TL.y rfl rfl rfl ?hy151 ?_
                  case hy151 => exact Yl.move rfl rfl
                  refine' TL.y rfl rfl rfl ?hy152 ?_
                  case hy152 => exact Yl.move rfl rfl
                  refine' TL.c rfl rfl rfl ?hy153 ?_
                  case hy153 => exact Yc.call rfl Try.func11 (by kernel_rfl) rfl rfl (Hp.news (fun w h => k_eff w (Hp.ownNw mem2 w h) (by omega) (Hp.ownCap mem2 w h) t))
                  intro v130
                  rw [lenE_ok hv2 ht0 ht1]
                  refine TL.fact (fun w h => h.ownSl mem0) ?_
                  rintro ⟨A130, c130, rfl⟩
                  refine TL.fact (fun w h => h.ownSome' mem0 (by omega)) ?_
                  rintro ⟨g130, rfl⟩
                  refine TL.fact (fun w h => h.ownSome' mem1 (by omega)) ?_
                  rintro ⟨g127, rfl⟩
                  refine' TL.y rfl rfl rfl ?hy154 ?_
                  case hy154 => exact Yl.assign rfl rfl
                  refine TL.nil ?_
                  refine TE.next ?_
                  refine TC.seq ?_
                  refine TC.seq ?_
                  refine TC.region ?_
                  refine' TL.y rfl rfl rfl ?hy155 ?_
                  case hy155 => exact Yl.assign rfl rfl
                  refine TL.nil ?_
                  refine TE.next ?_
                  refine TC.block ?_
                  refine TC.loop (σ := Nat) (fun i => [(0, .slice (some ⟨b, o, none⟩) m cp), (1, .int .i64 t), (5, .bool true), (7, .slice A7 m c7), (8, .slice (some ⟨b40, 0, none⟩) m m), (11, .slice (some ⟨g127, 0, none⟩) m c127), (12, .slice (some ⟨g130, 0, none⟩) m c130), (13, .int .i64 (i : Int))]) (fun i => Hp W (fun _ => False) [ownR 3 1 (.slice (some ⟨g130, 0, none⟩) m c130) (m) (Vw (m) (effV m (fun j => ((f j).1, u j, u j)) t)), ownR 3 1 (.slice (some ⟨g127, 0, none⟩) m c127) (m) (Vw (m) (effV m (fun j => ((f j).1, (f j).2.1, 0)) t)), ownR 3 1 (.slice (some ⟨b40, 0, none⟩) m m) (m) (Vw (m) (u)), ownR 38 3 (.slice A7 m c7) (m) (Nw (m) (fun j => ((f j).1, u j, u j))), ownR 38 3 (.slice A6 m c6) (m) (Nw (m) (fun j => ((f j).1, (f j).2.1, 0)))]) (fun i => i ≤ m) (fun i => m - i) 0 ?hF156 ?hs156 ?hm156 ?round156
                  case hF156 => exact Nat.zero_le _
                  case hs156 => exact ⟨rfl, rfl, rfl, rfl, rfl, rfl, rfl, rfl, trivial⟩
                  case hm156 => exact fun _ h => h
                  case round156 =>
                    intro i hi
                    refine TC.seq ?_
                    refine TC.seq ?_
                    refine TC.region ?_
                    refine' TL.y rfl rfl rfl ?hy157 ?_
                    case hy157 => exact Yl.move rfl rfl
                    refine' TL.y rfl rfl rfl ?hy158 ?_
                    case hy158 => exact Yl.move rfl rfl
                    refine' TL.y rfl rfl rfl ?hy159 ?_
                    case hy159 => exact Yl.len rfl rfl Try.underlying22
                    refine' TL.y rfl rfl rfl ?hy160 ?_
                    case hy160 => exact Yl.bin rfl rfl rfl (Bin.lss _ _ _ _)
                    refine TL.nil ?_
                    refine TE.next ?_
                    refine TC.cond rfl (fun hs134 => ?_) (fun hs134 => ?_)
                    · skip
                      (try simp only [decide_eq_true_eq, decide_eq_false_iff_not, beq_iff_eq, beq_eq_false_iff_ne, bne_iff_ne, ne_eq, bne_eq_false_iff_eq, Bool.not_eq_true', Bool.not_eq_false', Int.not_lt, Int.not_le, gt_iff_lt, ge_iff_le] at hs134)
                      have him : i < m := by omega
                      refine TC.skip ?_
                      refine TE.next ?_
                      refine TC.seq ?_
                      refine TC.block ?_
                      refine TC.seq ?_
                      refine TC.seq ?_
                      refine TC.region ?_
                      refine' TL.y rfl rfl rfl ?hy161 ?_
                      case hy161 => exact Yl.move rfl rfl
                      refine' TL.y rfl rfl rfl ?hy162 ?_
                      case hy162 => exact Yl.move rfl rfl
                      refine' TL.y rfl rfl rfl ?hy163 ?_
                      case hy163 => first | exact Yl.ixn rfl rfl rfl Try.underlying25 (by kernel_rfl) (by omega) | exact Yl.ixz rfl rfl rfl Try.underlying25 (by kernel_rfl) (by omega) (by omega) | exact Yl.ixcn rfl rfl rfl Try.underlying25 (by kernel_rfl) (by omega) | exact Yl.ixcz rfl rfl rfl Try.underlying25 (by kernel_rfl) (by omega) (by omega)
                      refine' TL.y rfl rfl rfl ?hy164 ?_
                      case hy164 => first | exact Yl.load rfl rfl (by kernel_rfl) (Hp.vw mem0 (by omega)) | exact Yl.load rfl rfl (by kernel_rfl) (Hp.vw mem1 (by omega)) | exact Yl.load rfl rfl (by kernel_rfl) (Hp.vw mem2 (by omega)) | exact Yl.load rfl rfl (by kernel_rfl) (Sl.nw hS (i := 0) rfl (by omega) (by decide)) | exact Yl.load rfl rfl (by kernel_rfl) (Sl.nw hS (i := 1) rfl (by omega) (by decide)) | exact Yl.load rfl rfl (by kernel_rfl) (Sl.nw hS (i := 2) rfl (by omega) (by decide)) | exact Yl.load rfl rfl (by kernel_rfl) (Hp.cell mem0 rfl) | exact Yl.load rfl rfl (by kernel_rfl) (Hp.cell mem1 rfl) | exact Yl.load rfl rfl (by kernel_rfl) (Hp.cell mem2 rfl) | exact Yl.load rfl rfl (by kernel_rfl) (Hp.cell mem3 rfl) | exact Yl.load rfl rfl (by kernel_rfl) (Hp.cell mem4 rfl) | exact Yl.load rfl rfl (by kernel_rfl) (Hp.rowAt mem0 (by omega) rfl) | exact Yl.load rfl rfl (by kernel_rfl) (Hp.rowAt mem1 (by omega) rfl) | exact Yl.load rfl rfl (by kernel_rfl) (Hp.rowAt mem2 (by omega) rfl) | exact Yl.load rfl rfl (by kernel_rfl) (Hp.rowAt mem3 (by omega) rfl) | exact Yl.load rfl rfl (by kernel_rfl) (Hp.rowAt mem4 (by omega) rfl)
                      refine' TL.y rfl rfl rfl ?hy165 ?_
                      case hy165 => exact Yl.bin rfl rfl rfl (Bin.neq _ _ _ _)
                      refine TL.nil ?_
                      refine TE.next ?_
                      refine TC.no rfl (by rw [none_zero hv1 ht0 (fun _ _ => rfl) i him]; rfl) ?_
                      refine TC.skip ?_
                      refine TE.next ?_
                      refine TC.seq ?_
                      refine TC.region ?_
                      refine' TL.y rfl rfl rfl ?hy166 ?_
                      case hy166 => exact Yl.move rfl rfl
                      refine' TL.y rfl rfl rfl ?hy167 ?_
                      case hy167 => exact Yl.move rfl rfl
                      refine' TL.y rfl rfl rfl ?hy168 ?_
                      case hy168 => exact Yl.move rfl rfl
                      refine' TL.y rfl rfl rfl ?hy169 ?_
                      case hy169 => exact Yl.move rfl rfl
                      refine' TL.c rfl rfl rfl ?hy170 ?_
                      case hy170 => exact Yc.call rfl Try.func17 (by kernel_rfl) rfl rfl (Hp.calls (fun w h => k_held w (Hp.ownNw mem3 w h) hm (h.ownVw mem0) hm t (i : Int)))
                      intro _
                      refine' TL.y rfl rfl rfl ?hy171 ?_
                      case hy171 => exact Yl.assign rfl rfl
                      refine TL.nil ?_
                      refine TE.next ?_
                      refine TC.seq ?_
                      refine TC.draw (k := 22) _ [] #[false, false, false, false, false, false, false, false, false, false, false, false, false, false, false, false, false, false, false, false, false, false] (by kernel_rfl) rfl rfl (fun _ h => h.drew) (fun _ h => h) ?_
                      refine' TA.y (i := 0) #[true, false, false, false, false, false, false, false, false, false, false, false, false, false, false, false, false, false, false, false, false, false] rfl rfl rfl (by kernel_rfl) (fun _ _ _ h => h) (fun _ h => by exact Hp.sub h (by repeat (first | exact List.Sublist.refl _ | apply List.Sublist.cons))) rfl ?hy172 ?_
                      case hy172 => exact Yl.move rfl rfl
                      refine' TA.y (i := 1) #[true, true, false, false, false, false, false, false, false, false, false, false, false, false, false, false, false, false, false, false, false, false] rfl rfl rfl (by kernel_rfl) (fun _ _ _ h => h) (fun _ h => by exact Hp.sub h (by repeat (first | exact List.Sublist.refl _ | apply List.Sublist.cons))) rfl ?hy173 ?_
                      case hy173 => exact Yl.move rfl rfl
                      refine' TA.y (i := 2) #[true, true, true, false, false, false, false, false, false, false, false, false, false, false, false, false, false, false, false, false, false, false] rfl rfl rfl (by kernel_rfl) (fun _ _ _ h => h) (fun _ h => by exact Hp.sub h (by repeat (first | exact List.Sublist.refl _ | apply List.Sublist.cons))) rfl ?hy174 ?_
                      case hy174 => exact Yl.bin rfl rfl rfl (Bin.neq _ _ _ _)
                      refine' TA.y (i := 3) #[true, true, true, true, false, false, false, false, false, false, false, false, false, false, false, false, false, false, false, false, false, false] rfl rfl rfl (by kernel_rfl) (fun _ _ _ h => h) (fun _ h => by exact Hp.sub h (by repeat (first | exact List.Sublist.refl _ | apply List.Sublist.cons))) rfl ?hy175 ?_
                      case hy175 => exact Yl.move rfl rfl
                      refine TA.split (i := 150) rfl (fun hs150 => ?_) (fun hs150 => ?_)
                      · skip
                        (try simp only [decide_eq_true_eq, decide_eq_false_iff_not, beq_iff_eq, beq_eq_false_iff_ne, bne_iff_ne, ne_eq, bne_eq_false_iff_eq, Bool.not_eq_true', Bool.not_eq_false', Int.not_lt, Int.not_le, gt_iff_lt, ge_iff_le] at hs150)
                        refine' TA.y (i := 4) #[true, true, true, true, true, false, false, false, false, false, false, false, false, false, false, false, false, false, false, false, false, false] rfl rfl rfl (by kernel_rfl) (fun _ _ _ h => h) (fun _ h => by exact Hp.sub h (by repeat (first | exact List.Sublist.refl _ | apply List.Sublist.cons))) rfl ?hy176 ?_
                        case hy176 => exact Yl.move rfl rfl
                        refine' TA.y (i := 5) #[true, true, true, true, true, true, false, false, false, false, false, false, false, false, false, false, false, false, false, false, false, false] rfl rfl rfl (by kernel_rfl) (fun _ _ _ h => h) (fun _ h => by exact Hp.sub h (by repeat (first | exact List.Sublist.refl _ | apply List.Sublist.cons))) rfl ?hy177 ?_
                        case hy177 => exact Yl.move rfl rfl
                        refine' TA.y (i := 6) #[true, true, true, true, true, true, true, false, false, false, false, false, false, false, false, false, false, false, false, false, false, false] rfl rfl rfl (by kernel_rfl) (fun _ _ _ h => h) (fun _ h => by exact Hp.sub h (by repeat (first | exact List.Sublist.refl _ | apply List.Sublist.cons))) rfl ?hy178 ?_
                        case hy178 => first | exact Yl.ixn rfl rfl rfl Try.underlying25 (by kernel_rfl) (by omega) | exact Yl.ixz rfl rfl rfl Try.underlying25 (by kernel_rfl) (by omega) (by omega) | exact Yl.ixcn rfl rfl rfl Try.underlying25 (by kernel_rfl) (by omega) | exact Yl.ixcz rfl rfl rfl Try.underlying25 (by kernel_rfl) (by omega) (by omega)
                        refine' TA.y (i := 7) #[true, true, true, true, true, true, true, true, false, false, false, false, false, false, false, false, false, false, false, false, false, false] rfl rfl rfl (by kernel_rfl) (fun _ _ _ h => h) (fun _ h => by exact Hp.sub h (by repeat (first | exact List.Sublist.refl _ | apply List.Sublist.cons))) rfl ?hy179 ?_
                        case hy179 => first | exact Yl.load rfl rfl (by kernel_rfl) (Hp.vw mem0 (by omega)) | exact Yl.load rfl rfl (by kernel_rfl) (Hp.vw mem1 (by omega)) | exact Yl.load rfl rfl (by kernel_rfl) (Hp.vw mem2 (by omega)) | exact Yl.load rfl rfl (by kernel_rfl) (Sl.nw hS (i := 0) rfl (by omega) (by decide)) | exact Yl.load rfl rfl (by kernel_rfl) (Sl.nw hS (i := 1) rfl (by omega) (by decide)) | exact Yl.load rfl rfl (by kernel_rfl) (Sl.nw hS (i := 2) rfl (by omega) (by decide)) | exact Yl.load rfl rfl (by kernel_rfl) (Hp.cell mem0 rfl) | exact Yl.load rfl rfl (by kernel_rfl) (Hp.cell mem1 rfl) | exact Yl.load rfl rfl (by kernel_rfl) (Hp.cell mem2 rfl) | exact Yl.load rfl rfl (by kernel_rfl) (Hp.cell mem3 rfl) | exact Yl.load rfl rfl (by kernel_rfl) (Hp.cell mem4 rfl) | exact Yl.load rfl rfl (by kernel_rfl) (Hp.rowAt mem0 (by omega) rfl) | exact Yl.load rfl rfl (by kernel_rfl) (Hp.rowAt mem1 (by omega) rfl) | exact Yl.load rfl rfl (by kernel_rfl) (Hp.rowAt mem2 (by omega) rfl) | exact Yl.load rfl rfl (by kernel_rfl) (Hp.rowAt mem3 (by omega) rfl) | exact Yl.load rfl rfl (by kernel_rfl) (Hp.rowAt mem4 (by omega) rfl)
                        refine' TA.y (i := 8) #[true, true, true, true, true, true, true, true, true, false, false, false, false, false, false, false, false, false, false, false, false, false] rfl rfl rfl (by kernel_rfl) (fun _ _ _ h => h) (fun _ h => by exact Hp.sub h (by repeat (first | exact List.Sublist.refl _ | apply List.Sublist.cons))) rfl ?hy180 ?_
                        case hy180 => exact Yl.move rfl rfl
                        refine' TA.y (i := 9) #[true, true, true, true, true, true, true, true, true, true, false, false, false, false, false, false, false, false, false, false, false, false] rfl rfl rfl (by kernel_rfl) (fun _ _ _ h => h) (fun _ h => by exact Hp.sub h (by repeat (first | exact List.Sublist.refl _ | apply List.Sublist.cons))) rfl ?hy181 ?_
                        case hy181 => exact Yl.move rfl rfl
                        refine' TA.y (i := 10) #[true, true, true, true, true, true, true, true, true, true, true, false, false, false, false, false, false, false, false, false, false, false] rfl rfl rfl (by kernel_rfl) (fun _ _ _ h => h) (fun _ h => by exact Hp.sub h (by repeat (first | exact List.Sublist.refl _ | apply List.Sublist.cons))) rfl ?hy182 ?_
                        case hy182 => first | exact Yl.ixn rfl rfl rfl Try.underlying25 (by kernel_rfl) (by omega) | exact Yl.ixz rfl rfl rfl Try.underlying25 (by kernel_rfl) (by omega) (by omega) | exact Yl.ixcn rfl rfl rfl Try.underlying25 (by kernel_rfl) (by omega) | exact Yl.ixcz rfl rfl rfl Try.underlying25 (by kernel_rfl) (by omega) (by omega)
                        refine' TA.y (i := 11) #[true, true, true, true, true, true, true, true, true, true, true, true, false, false, false, false, false, false, false, false, false, false] rfl rfl rfl (by kernel_rfl) (fun _ _ _ h => h) (fun _ h => by exact Hp.sub h (by repeat (first | exact List.Sublist.refl _ | apply List.Sublist.cons))) rfl ?hy183 ?_
                        case hy183 => first | exact Yl.load rfl rfl (by kernel_rfl) (Hp.vw mem0 (by omega)) | exact Yl.load rfl rfl (by kernel_rfl) (Hp.vw mem1 (by omega)) | exact Yl.load rfl rfl (by kernel_rfl) (Hp.vw mem2 (by omega)) | exact Yl.load rfl rfl (by kernel_rfl) (Sl.nw hS (i := 0) rfl (by omega) (by decide)) | exact Yl.load rfl rfl (by kernel_rfl) (Sl.nw hS (i := 1) rfl (by omega) (by decide)) | exact Yl.load rfl rfl (by kernel_rfl) (Sl.nw hS (i := 2) rfl (by omega) (by decide)) | exact Yl.load rfl rfl (by kernel_rfl) (Hp.cell mem0 rfl) | exact Yl.load rfl rfl (by kernel_rfl) (Hp.cell mem1 rfl) | exact Yl.load rfl rfl (by kernel_rfl) (Hp.cell mem2 rfl) | exact Yl.load rfl rfl (by kernel_rfl) (Hp.cell mem3 rfl) | exact Yl.load rfl rfl (by kernel_rfl) (Hp.cell mem4 rfl) | exact Yl.load rfl rfl (by kernel_rfl) (Hp.rowAt mem0 (by omega) rfl) | exact Yl.load rfl rfl (by kernel_rfl) (Hp.rowAt mem1 (by omega) rfl) | exact Yl.load rfl rfl (by kernel_rfl) (Hp.rowAt mem2 (by omega) rfl) | exact Yl.load rfl rfl (by kernel_rfl) (Hp.rowAt mem3 (by omega) rfl) | exact Yl.load rfl rfl (by kernel_rfl) (Hp.rowAt mem4 (by omega) rfl)
                        refine' TA.y (i := 12) #[true, true, true, true, true, true, true, true, true, true, true, true, true, false, false, false, false, false, false, false, false, false] rfl rfl rfl (by kernel_rfl) (fun _ _ _ h => h) (fun _ h => by exact Hp.sub h (by repeat (first | exact List.Sublist.refl _ | apply List.Sublist.cons))) rfl ?hy184 ?_
                        case hy184 => exact Yl.bin rfl rfl rfl (Bin.eql _ _ _ _)
                        refine' TA.y (i := 13) #[true, true, true, true, true, true, true, true, true, true, true, true, true, true, false, false, false, false, false, false, false, false] rfl rfl rfl (by kernel_rfl) (fun _ _ _ h => h) (fun _ h => by exact Hp.sub h (by repeat (first | exact List.Sublist.refl _ | apply List.Sublist.cons))) rfl ?hy185 ?_
                        case hy185 => exact Yl.pickT rfl rfl rfl
                        refine' TA.y (i := 14) #[true, true, true, true, true, true, true, true, true, true, true, true, true, true, true, false, false, false, false, false, false, false] rfl rfl rfl (by kernel_rfl) (fun _ _ _ h => h) (fun _ h => by exact Hp.sub h (by repeat (first | exact List.Sublist.refl _ | apply List.Sublist.cons))) rfl ?hy186 ?_
                        case hy186 => exact Yl.move rfl rfl
                        refine TA.split (i := 161) rfl (fun hs161 => ?_) (fun hs161 => ?_)
                        · skip
                          (try simp only [decide_eq_true_eq, decide_eq_false_iff_not, beq_iff_eq, beq_eq_false_iff_ne, bne_iff_ne, ne_eq, bne_eq_false_iff_eq, Bool.not_eq_true', Bool.not_eq_false', Int.not_lt, Int.not_le, gt_iff_lt, ge_iff_le] at hs161)
                          refine' TA.y (i := 15) #[true, true, true, true, true, true, true, true, true, true, true, true, true, true, true, true, false, false, false, false, false, false] rfl rfl rfl (by kernel_rfl) (fun _ _ _ h => h) (fun _ h => by exact Hp.sub h (by repeat (first | exact List.Sublist.refl _ | apply List.Sublist.cons))) rfl ?hy187 ?_
                          case hy187 => exact Yl.move rfl rfl
                          refine' TA.y (i := 16) #[true, true, true, true, true, true, true, true, true, true, true, true, true, true, true, true, true, false, false, false, false, false] rfl rfl rfl (by kernel_rfl) (fun _ _ _ h => h) (fun _ h => by exact Hp.sub h (by repeat (first | exact List.Sublist.refl _ | apply List.Sublist.cons))) rfl ?hy188 ?_
                          case hy188 => exact Yl.move rfl rfl
                          refine' TA.y (i := 17) #[true, true, true, true, true, true, true, true, true, true, true, true, true, true, true, true, true, true, false, false, false, false] rfl rfl rfl (by kernel_rfl) (fun _ _ _ h => h) (fun _ h => by exact Hp.sub h (by repeat (first | exact List.Sublist.refl _ | apply List.Sublist.cons))) rfl ?hy189 ?_
                          case hy189 => first | exact Yl.ixn rfl rfl rfl Try.underlying25 (by kernel_rfl) (by omega) | exact Yl.ixz rfl rfl rfl Try.underlying25 (by kernel_rfl) (by omega) (by omega) | exact Yl.ixcn rfl rfl rfl Try.underlying25 (by kernel_rfl) (by omega) | exact Yl.ixcz rfl rfl rfl Try.underlying25 (by kernel_rfl) (by omega) (by omega)
                          refine' TA.y (i := 18) #[true, true, true, true, true, true, true, true, true, true, true, true, true, true, true, true, true, true, true, false, false, false] rfl rfl rfl (by kernel_rfl) (fun _ _ _ h => h) (fun _ h => by exact Hp.sub h (by repeat (first | exact List.Sublist.refl _ | apply List.Sublist.cons))) rfl ?hy190 ?_
                          case hy190 => first | exact Yl.load rfl rfl (by kernel_rfl) (Hp.vw mem0 (by omega)) | exact Yl.load rfl rfl (by kernel_rfl) (Hp.vw mem1 (by omega)) | exact Yl.load rfl rfl (by kernel_rfl) (Hp.vw mem2 (by omega)) | exact Yl.load rfl rfl (by kernel_rfl) (Sl.nw hS (i := 0) rfl (by omega) (by decide)) | exact Yl.load rfl rfl (by kernel_rfl) (Sl.nw hS (i := 1) rfl (by omega) (by decide)) | exact Yl.load rfl rfl (by kernel_rfl) (Sl.nw hS (i := 2) rfl (by omega) (by decide)) | exact Yl.load rfl rfl (by kernel_rfl) (Hp.cell mem0 rfl) | exact Yl.load rfl rfl (by kernel_rfl) (Hp.cell mem1 rfl) | exact Yl.load rfl rfl (by kernel_rfl) (Hp.cell mem2 rfl) | exact Yl.load rfl rfl (by kernel_rfl) (Hp.cell mem3 rfl) | exact Yl.load rfl rfl (by kernel_rfl) (Hp.cell mem4 rfl) | exact Yl.load rfl rfl (by kernel_rfl) (Hp.rowAt mem0 (by omega) rfl) | exact Yl.load rfl rfl (by kernel_rfl) (Hp.rowAt mem1 (by omega) rfl) | exact Yl.load rfl rfl (by kernel_rfl) (Hp.rowAt mem2 (by omega) rfl) | exact Yl.load rfl rfl (by kernel_rfl) (Hp.rowAt mem3 (by omega) rfl) | exact Yl.load rfl rfl (by kernel_rfl) (Hp.rowAt mem4 (by omega) rfl)
                          refine' TA.y (i := 19) #[true, true, true, true, true, true, true, true, true, true, true, true, true, true, true, true, true, true, true, true, false, false] rfl rfl rfl (by kernel_rfl) (fun _ _ _ h => h) (fun _ h => by exact Hp.sub h (by repeat (first | exact List.Sublist.refl _ | apply List.Sublist.cons))) rfl ?hy191 ?_
                          case hy191 => exact Yl.bin rfl rfl rfl (Bin.gtr _ _ _ _)
                          refine' TA.y (i := 20) #[true, true, true, true, true, true, true, true, true, true, true, true, true, true, true, true, true, true, true, true, true, false] rfl rfl rfl (by kernel_rfl) (fun _ _ _ h => h) (fun _ h => by exact Hp.sub h (by repeat (first | exact List.Sublist.refl _ | apply List.Sublist.cons))) rfl ?hy192 ?_
                          case hy192 => exact Yl.pickT rfl rfl rfl
                          refine' TA.y (i := 21) #[true, true, true, true, true, true, true, true, true, true, true, true, true, true, true, true, true, true, true, true, true, true] rfl rfl rfl (by kernel_rfl) (fun _ _ _ h => h) (fun _ h => by exact Hp.sub h (by repeat (first | exact List.Sublist.refl _ | apply List.Sublist.cons))) rfl ?hy193 ?_
                          case hy193 => exact Yl.assign rfl rfl
                          refine TA.done (by kernel_rfl) ?_
                          refine TE.next ?_
                          refine TC.seq ?_
                          refine TC.seq ?_
                          refine TC.region ?_
                          refine' TL.y rfl rfl rfl ?hy194 ?_
                          case hy194 => exact Yl.move rfl rfl
                          refine' TL.y rfl rfl rfl ?hy195 ?_
                          case hy195 => exact Yl.move rfl rfl
                          refine TL.split (i := 169) rfl (fun hs169 => ?_) (fun hs169 => ?_)
                          · skip
                            (try simp only [decide_eq_true_eq, decide_eq_false_iff_not, beq_iff_eq, beq_eq_false_iff_ne, bne_iff_ne, ne_eq, bne_eq_false_iff_eq, Bool.not_eq_true', Bool.not_eq_false', Int.not_lt, Int.not_le, gt_iff_lt, ge_iff_le] at hs169)
                            refine' TL.y rfl rfl rfl ?hy196 ?_
                            case hy196 => exact Yl.move rfl rfl
                            refine' TL.y rfl rfl rfl ?hy197 ?_
                            case hy197 => exact Yl.not rfl rfl
                            refine' TL.y rfl rfl rfl ?hy198 ?_
                            case hy198 => exact Yl.pickT rfl rfl rfl
                            refine TL.nil ?_
                            refine TE.next ?_
                            refine TC.no rfl (by rw [held_in hv2 ht0 ht1 (fun _ _ => rfl) him (by assumption) rfl (by assumption) (by assumption)]; rfl) ?_
                            refine TC.skip ?_
                            refine TE.next ?_
                            refine TC.seq ?_
                            refine TC.draw (k := 18) _ [] #[false, false, false, false, false, false, false, false, false, false, false, false, false, false, false, false, false, false] (by kernel_rfl) rfl rfl (fun _ h => h.drew) (fun _ h => h) ?_
                            refine' TA.y (i := 0) #[true, false, false, false, false, false, false, false, false, false, false, false, false, false, false, false, false, false] rfl rfl rfl (by kernel_rfl) (fun _ _ _ h => h) (fun _ h => by exact Hp.sub h (by repeat (first | exact List.Sublist.refl _ | apply List.Sublist.cons))) rfl ?hy199 ?_
                            case hy199 => exact Yl.move rfl rfl
                            refine' TA.y (i := 1) #[true, true, false, false, false, false, false, false, false, false, false, false, false, false, false, false, false, false] rfl rfl rfl (by kernel_rfl) (fun _ _ _ h => h) (fun _ h => by exact Hp.sub h (by repeat (first | exact List.Sublist.refl _ | apply List.Sublist.cons))) rfl ?hy200 ?_
                            case hy200 => exact Yl.move rfl rfl
                            refine' TA.y (i := 2) #[true, true, true, false, false, false, false, false, false, false, false, false, false, false, false, false, false, false] rfl rfl rfl (by kernel_rfl) (fun _ _ _ h => h) (fun _ h => by exact Hp.sub h (by repeat (first | exact List.Sublist.refl _ | apply List.Sublist.cons))) rfl ?hy201 ?_
                            case hy201 => exact Yl.ixkn (k := 3) rfl rfl rfl Try.underlying22 (by kernel_rfl) (by omega)
                            refine' TA.y (i := 3) #[true, true, true, true, false, false, false, false, false, false, false, false, false, false, false, false, false, false] rfl rfl rfl (by kernel_rfl) (fun _ _ _ h => h) (fun _ h => by exact Hp.sub h (by repeat (first | exact List.Sublist.refl _ | apply List.Sublist.cons))) rfl ?hy202 ?_
                            case hy202 => first | exact Yl.field0 (k := 0) 0 rfl rfl Try.underlying38 rfl (by kernel_rfl) rfl | exact Yl.field (k := 0) 0 rfl rfl Try.underlying38 rfl (by kernel_rfl) rfl
                            refine' TA.y (i := 4) #[true, true, true, true, true, false, false, false, false, false, false, false, false, false, false, false, false, false] rfl rfl rfl (by kernel_rfl) (fun _ _ _ h => h) (fun _ h => by exact Hp.sub h (by repeat (first | exact List.Sublist.refl _ | apply List.Sublist.cons))) rfl ?hy203 ?_
                            case hy203 => first | exact Yl.load rfl rfl (by kernel_rfl) (Hp.vw mem0 (by omega)) | exact Yl.load rfl rfl (by kernel_rfl) (Hp.vw mem1 (by omega)) | exact Yl.load rfl rfl (by kernel_rfl) (Hp.vw mem2 (by omega)) | exact Yl.load rfl rfl (by kernel_rfl) (Sl.nw hS (i := 0) rfl (by omega) (by decide)) | exact Yl.load rfl rfl (by kernel_rfl) (Sl.nw hS (i := 1) rfl (by omega) (by decide)) | exact Yl.load rfl rfl (by kernel_rfl) (Sl.nw hS (i := 2) rfl (by omega) (by decide)) | exact Yl.load rfl rfl (by kernel_rfl) (Hp.cell mem0 rfl) | exact Yl.load rfl rfl (by kernel_rfl) (Hp.cell mem1 rfl) | exact Yl.load rfl rfl (by kernel_rfl) (Hp.cell mem2 rfl) | exact Yl.load rfl rfl (by kernel_rfl) (Hp.cell mem3 rfl) | exact Yl.load rfl rfl (by kernel_rfl) (Hp.cell mem4 rfl) | exact Yl.load rfl rfl (by kernel_rfl) (Hp.rowAt mem0 (by omega) rfl) | exact Yl.load rfl rfl (by kernel_rfl) (Hp.rowAt mem1 (by omega) rfl) | exact Yl.load rfl rfl (by kernel_rfl) (Hp.rowAt mem2 (by omega) rfl) | exact Yl.load rfl rfl (by kernel_rfl) (Hp.rowAt mem3 (by omega) rfl) | exact Yl.load rfl rfl (by kernel_rfl) (Hp.rowAt mem4 (by omega) rfl)
                            refine TA.re (i := 177) (v' := .int .i64 (f i).1) rfl rfl ?_
                            refine' TA.y (i := 5) #[true, true, true, true, true, true, false, false, false, false, false, false, false, false, false, false, false, false] rfl rfl rfl (by kernel_rfl) (fun _ _ _ h => h) (fun _ h => by exact Hp.sub h (by repeat (first | exact List.Sublist.refl _ | apply List.Sublist.cons))) rfl ?hy204 ?_
                            case hy204 => exact Yl.move rfl rfl
                            refine' TA.y (i := 6) #[true, true, true, true, true, true, true, false, false, false, false, false, false, false, false, false, false, false] rfl rfl rfl (by kernel_rfl) (fun _ _ _ h => h) (fun _ h => by exact Hp.sub h (by repeat (first | exact List.Sublist.refl _ | apply List.Sublist.cons))) rfl ?hy205 ?_
                            case hy205 => exact Yl.bin rfl rfl rfl (Bin.eql _ _ _ _)
                            refine' TA.y (i := 7) #[true, true, true, true, true, true, true, true, false, false, false, false, false, false, false, false, false, false] rfl rfl rfl (by kernel_rfl) (fun _ _ _ h => h) (fun _ h => by exact Hp.sub h (by repeat (first | exact List.Sublist.refl _ | apply List.Sublist.cons))) rfl ?hy206 ?_
                            case hy206 => exact Yl.move rfl rfl
                            refine TA.split (i := 180) rfl (fun hs180 => ?_) (fun hs180 => ?_)
                            · skip
                              (try simp only [decide_eq_true_eq, decide_eq_false_iff_not, beq_iff_eq, beq_eq_false_iff_ne, bne_iff_ne, ne_eq, bne_eq_false_iff_eq, Bool.not_eq_true', Bool.not_eq_false', Int.not_lt, Int.not_le, gt_iff_lt, ge_iff_le] at hs180)
                              refine' TA.y (i := 8) #[true, true, true, true, true, true, true, true, true, false, false, false, false, false, false, false, false, false] rfl rfl rfl (by kernel_rfl) (fun _ _ _ h => h) (fun _ h => by exact Hp.sub h (by repeat (first | exact List.Sublist.refl _ | apply List.Sublist.cons))) rfl ?hy207 ?_
                              case hy207 => exact Yl.move rfl rfl
                              refine' TA.y (i := 9) #[true, true, true, true, true, true, true, true, true, true, false, false, false, false, false, false, false, false] rfl rfl rfl (by kernel_rfl) (fun _ _ _ h => h) (fun _ h => by exact Hp.sub h (by repeat (first | exact List.Sublist.refl _ | apply List.Sublist.cons))) rfl ?hy208 ?_
                              case hy208 => exact Yl.move rfl rfl
                              refine' TA.y (i := 10) #[true, true, true, true, true, true, true, true, true, true, true, false, false, false, false, false, false, false] rfl rfl rfl (by kernel_rfl) (fun _ _ _ h => h) (fun _ h => by exact Hp.sub h (by repeat (first | exact List.Sublist.refl _ | apply List.Sublist.cons))) rfl ?hy209 ?_
                              case hy209 => first | exact Yl.ixn rfl rfl rfl Try.underlying25 (by kernel_rfl) (by omega) | exact Yl.ixz rfl rfl rfl Try.underlying25 (by kernel_rfl) (by omega) (by omega) | exact Yl.ixcn rfl rfl rfl Try.underlying25 (by kernel_rfl) (by omega) | exact Yl.ixcz rfl rfl rfl Try.underlying25 (by kernel_rfl) (by omega) (by omega)
                              refine' TA.y (i := 11) #[true, true, true, true, true, true, true, true, true, true, true, true, false, false, false, false, false, false] rfl rfl rfl (by kernel_rfl) (fun _ _ _ h => h) (fun _ h => by exact Hp.sub h (by repeat (first | exact List.Sublist.refl _ | apply List.Sublist.cons))) rfl ?hy210 ?_
                              case hy210 => first | exact Yl.load rfl rfl (by kernel_rfl) (Hp.vw mem0 (by omega)) | exact Yl.load rfl rfl (by kernel_rfl) (Hp.vw mem1 (by omega)) | exact Yl.load rfl rfl (by kernel_rfl) (Hp.vw mem2 (by omega)) | exact Yl.load rfl rfl (by kernel_rfl) (Sl.nw hS (i := 0) rfl (by omega) (by decide)) | exact Yl.load rfl rfl (by kernel_rfl) (Sl.nw hS (i := 1) rfl (by omega) (by decide)) | exact Yl.load rfl rfl (by kernel_rfl) (Sl.nw hS (i := 2) rfl (by omega) (by decide)) | exact Yl.load rfl rfl (by kernel_rfl) (Hp.cell mem0 rfl) | exact Yl.load rfl rfl (by kernel_rfl) (Hp.cell mem1 rfl) | exact Yl.load rfl rfl (by kernel_rfl) (Hp.cell mem2 rfl) | exact Yl.load rfl rfl (by kernel_rfl) (Hp.cell mem3 rfl) | exact Yl.load rfl rfl (by kernel_rfl) (Hp.cell mem4 rfl) | exact Yl.load rfl rfl (by kernel_rfl) (Hp.rowAt mem0 (by omega) rfl) | exact Yl.load rfl rfl (by kernel_rfl) (Hp.rowAt mem1 (by omega) rfl) | exact Yl.load rfl rfl (by kernel_rfl) (Hp.rowAt mem2 (by omega) rfl) | exact Yl.load rfl rfl (by kernel_rfl) (Hp.rowAt mem3 (by omega) rfl) | exact Yl.load rfl rfl (by kernel_rfl) (Hp.rowAt mem4 (by omega) rfl)
                              refine' TA.y (i := 12) #[true, true, true, true, true, true, true, true, true, true, true, true, true, false, false, false, false, false] rfl rfl rfl (by kernel_rfl) (fun _ _ _ h => h) (fun _ h => by exact Hp.sub h (by repeat (first | exact List.Sublist.refl _ | apply List.Sublist.cons))) rfl ?hy211 ?_
                              case hy211 => exact Yl.move rfl rfl
                              refine' TA.y (i := 13) #[true, true, true, true, true, true, true, true, true, true, true, true, true, true, false, false, false, false] rfl rfl rfl (by kernel_rfl) (fun _ _ _ h => h) (fun _ h => by exact Hp.sub h (by repeat (first | exact List.Sublist.refl _ | apply List.Sublist.cons))) rfl ?hy212 ?_
                              case hy212 => exact Yl.move rfl rfl
                              refine' TA.y (i := 14) #[true, true, true, true, true, true, true, true, true, true, true, true, true, true, true, false, false, false] rfl rfl rfl (by kernel_rfl) (fun _ _ _ h => h) (fun _ h => by exact Hp.sub h (by repeat (first | exact List.Sublist.refl _ | apply List.Sublist.cons))) rfl ?hy213 ?_
                              case hy213 => first | exact Yl.ixn rfl rfl rfl Try.underlying25 (by kernel_rfl) (by omega) | exact Yl.ixz rfl rfl rfl Try.underlying25 (by kernel_rfl) (by omega) (by omega) | exact Yl.ixcn rfl rfl rfl Try.underlying25 (by kernel_rfl) (by omega) | exact Yl.ixcz rfl rfl rfl Try.underlying25 (by kernel_rfl) (by omega) (by omega)
                              refine' TA.y (i := 15) #[true, true, true, true, true, true, true, true, true, true, true, true, true, true, true, true, false, false] rfl rfl rfl (by kernel_rfl) (fun _ _ _ h => h) (fun _ h => by exact Hp.sub h (by repeat (first | exact List.Sublist.refl _ | apply List.Sublist.cons))) rfl ?hy214 ?_
                              case hy214 => first | exact Yl.load rfl rfl (by kernel_rfl) (Hp.vw mem0 (by omega)) | exact Yl.load rfl rfl (by kernel_rfl) (Hp.vw mem1 (by omega)) | exact Yl.load rfl rfl (by kernel_rfl) (Hp.vw mem2 (by omega)) | exact Yl.load rfl rfl (by kernel_rfl) (Sl.nw hS (i := 0) rfl (by omega) (by decide)) | exact Yl.load rfl rfl (by kernel_rfl) (Sl.nw hS (i := 1) rfl (by omega) (by decide)) | exact Yl.load rfl rfl (by kernel_rfl) (Sl.nw hS (i := 2) rfl (by omega) (by decide)) | exact Yl.load rfl rfl (by kernel_rfl) (Hp.cell mem0 rfl) | exact Yl.load rfl rfl (by kernel_rfl) (Hp.cell mem1 rfl) | exact Yl.load rfl rfl (by kernel_rfl) (Hp.cell mem2 rfl) | exact Yl.load rfl rfl (by kernel_rfl) (Hp.cell mem3 rfl) | exact Yl.load rfl rfl (by kernel_rfl) (Hp.cell mem4 rfl) | exact Yl.load rfl rfl (by kernel_rfl) (Hp.rowAt mem0 (by omega) rfl) | exact Yl.load rfl rfl (by kernel_rfl) (Hp.rowAt mem1 (by omega) rfl) | exact Yl.load rfl rfl (by kernel_rfl) (Hp.rowAt mem2 (by omega) rfl) | exact Yl.load rfl rfl (by kernel_rfl) (Hp.rowAt mem3 (by omega) rfl) | exact Yl.load rfl rfl (by kernel_rfl) (Hp.rowAt mem4 (by omega) rfl)
                              refine' TA.y (i := 16) #[true, true, true, true, true, true, true, true, true, true, true, true, true, true, true, true, true, false] rfl rfl rfl (by kernel_rfl) (fun _ _ _ h => h) (fun _ h => by exact Hp.sub h (by repeat (first | exact List.Sublist.refl _ | apply List.Sublist.cons))) rfl ?hy215 ?_
                              case hy215 => exact Yl.bin rfl rfl rfl (Bin.neq _ _ _ _)
                              refine' TA.y (i := 17) #[true, true, true, true, true, true, true, true, true, true, true, true, true, true, true, true, true, true] rfl rfl rfl (by kernel_rfl) (fun _ _ _ h => h) (fun _ h => by exact Hp.sub h (by repeat (first | exact List.Sublist.refl _ | apply List.Sublist.cons))) rfl ?hy216 ?_
                              case hy216 => exact Yl.pickT rfl rfl rfl
                              refine TA.done (by kernel_rfl) ?_
                              refine TE.next ?_
                              refine TC.no rfl (by rw [all_top hv2 ht0 (fun _ _ => rfl) (fun _ _ => rfl) him (by assumption)]; simp) ?_
                              refine TC.skip ?_
                              refine TE.inNormal ?_
                              refine TE.next ?_
                              refine TC.region ?_
                              refine' TL.y rfl rfl rfl ?hy217 ?_
                              case hy217 => exact Yl.move rfl rfl
                              refine' TL.y rfl rfl rfl ?hy218 ?_
                              case hy218 => first | (refine Yl.val (Yl.bin rfl rfl rfl (Bin.add _ _ _ _)) (congrArg (Value.int .i64) (i64in ?_ ?_)) <;> omega) | exact Yl.bin rfl rfl rfl (Bin.add _ _ _ _)
                              refine' TL.y rfl rfl rfl ?hy219 ?_
                              case hy219 => exact Yl.assign rfl rfl
                              refine TL.nil ?_
                              refine TE.round (i + 1) ?hF220 ?hlt220 ?hs220 ?hm220
                              case hF220 => omega
                              case hlt220 => omega
                              case hs220 => exact ⟨rfl, rfl, rfl, rfl, rfl, rfl, rfl, rfl, trivial⟩
                              case hm220 => exact fun _ h => h
                            · skip
                              (try simp only [decide_eq_true_eq, decide_eq_false_iff_not, beq_iff_eq, beq_eq_false_iff_ne, bne_iff_ne, ne_eq, bne_eq_false_iff_eq, Bool.not_eq_true', Bool.not_eq_false', Int.not_lt, Int.not_le, gt_iff_lt, ge_iff_le] at hs180)
                              refine TA.skip (i := 8) #[true, true, true, true, true, true, true, true, true, false, false, false, false, false, false, false, false, false] rfl rfl rfl (by kernel_rfl) (fun _ _ _ h => h) rfl ?_
                              refine TA.skip (i := 9) #[true, true, true, true, true, true, true, true, true, true, false, false, false, false, false, false, false, false] rfl rfl rfl (by kernel_rfl) (fun _ _ _ h => h) rfl ?_
                              refine TA.skip (i := 10) #[true, true, true, true, true, true, true, true, true, true, true, false, false, false, false, false, false, false] rfl rfl rfl (by kernel_rfl) (fun _ _ _ h => h) rfl ?_
                              refine TA.skip (i := 11) #[true, true, true, true, true, true, true, true, true, true, true, true, false, false, false, false, false, false] rfl rfl rfl (by kernel_rfl) (fun _ _ _ h => h) rfl ?_
                              refine TA.skip (i := 12) #[true, true, true, true, true, true, true, true, true, true, true, true, true, false, false, false, false, false] rfl rfl rfl (by kernel_rfl) (fun _ _ _ h => h) rfl ?_
                              refine TA.skip (i := 13) #[true, true, true, true, true, true, true, true, true, true, true, true, true, true, false, false, false, false] rfl rfl rfl (by kernel_rfl) (fun _ _ _ h => h) rfl ?_
                              refine TA.skip (i := 14) #[true, true, true, true, true, true, true, true, true, true, true, true, true, true, true, false, false, false] rfl rfl rfl (by kernel_rfl) (fun _ _ _ h => h) rfl ?_
                              refine TA.skip (i := 15) #[true, true, true, true, true, true, true, true, true, true, true, true, true, true, true, true, false, false] rfl rfl rfl (by kernel_rfl) (fun _ _ _ h => h) rfl ?_
                              refine TA.skip (i := 16) #[true, true, true, true, true, true, true, true, true, true, true, true, true, true, true, true, true, false] rfl rfl rfl (by kernel_rfl) (fun _ _ _ h => h) rfl ?_
                              refine' TA.y (i := 17) #[true, true, true, true, true, true, true, true, true, true, true, true, true, true, true, true, true, true] rfl rfl rfl (by kernel_rfl) (fun _ _ _ h => h) (fun _ h => by exact Hp.sub h (by repeat (first | exact List.Sublist.refl _ | apply List.Sublist.cons))) rfl ?hy221 ?_
                              case hy221 => exact Yl.pickF rfl rfl rfl
                              refine TA.done (by kernel_rfl) ?_
                              refine TE.next ?_
                              refine TC.no rfl rfl ?_
                              refine TC.skip ?_
                              refine TE.inNormal ?_
                              refine TE.next ?_
                              refine TC.region ?_
                              refine' TL.y rfl rfl rfl ?hy222 ?_
                              case hy222 => exact Yl.move rfl rfl
                              refine' TL.y rfl rfl rfl ?hy223 ?_
                              case hy223 => first | (refine Yl.val (Yl.bin rfl rfl rfl (Bin.add _ _ _ _)) (congrArg (Value.int .i64) (i64in ?_ ?_)) <;> omega) | exact Yl.bin rfl rfl rfl (Bin.add _ _ _ _)
                              refine' TL.y rfl rfl rfl ?hy224 ?_
                              case hy224 => exact Yl.assign rfl rfl
                              refine TL.nil ?_
                              refine TE.round (i + 1) ?hF225 ?hlt225 ?hs225 ?hm225
                              case hF225 => omega
                              case hlt225 => omega
                              case hs225 => exact ⟨rfl, rfl, rfl, rfl, rfl, rfl, rfl, rfl, trivial⟩
                              case hm225 => exact fun _ h => h
                          · skip
                            (try simp only [decide_eq_true_eq, decide_eq_false_iff_not, beq_iff_eq, beq_eq_false_iff_ne, bne_iff_ne, ne_eq, bne_eq_false_iff_eq, Bool.not_eq_true', Bool.not_eq_false', Int.not_lt, Int.not_le, gt_iff_lt, ge_iff_le] at hs169)
                            refine TL.skip rfl rfl rfl ?_
                            refine TL.skip rfl rfl rfl ?_
                            refine' TL.y rfl rfl rfl ?hy226 ?_
                            case hy226 => exact Yl.pickF rfl rfl rfl
                            refine TL.nil ?_
                            refine TE.next ?_
                            refine TC.no rfl rfl ?_
                            refine TC.skip ?_
                            refine TE.next ?_
                            refine TC.seq ?_
                            refine TC.draw (k := 18) _ [] #[false, false, false, false, false, false, false, false, false, false, false, false, false, false, false, false, false, false] (by kernel_rfl) rfl rfl (fun _ h => h.drew) (fun _ h => h) ?_
                            refine' TA.y (i := 0) #[true, false, false, false, false, false, false, false, false, false, false, false, false, false, false, false, false, false] rfl rfl rfl (by kernel_rfl) (fun _ _ _ h => h) (fun _ h => by exact Hp.sub h (by repeat (first | exact List.Sublist.refl _ | apply List.Sublist.cons))) rfl ?hy227 ?_
                            case hy227 => exact Yl.move rfl rfl
                            refine' TA.y (i := 1) #[true, true, false, false, false, false, false, false, false, false, false, false, false, false, false, false, false, false] rfl rfl rfl (by kernel_rfl) (fun _ _ _ h => h) (fun _ h => by exact Hp.sub h (by repeat (first | exact List.Sublist.refl _ | apply List.Sublist.cons))) rfl ?hy228 ?_
                            case hy228 => exact Yl.move rfl rfl
                            refine' TA.y (i := 2) #[true, true, true, false, false, false, false, false, false, false, false, false, false, false, false, false, false, false] rfl rfl rfl (by kernel_rfl) (fun _ _ _ h => h) (fun _ h => by exact Hp.sub h (by repeat (first | exact List.Sublist.refl _ | apply List.Sublist.cons))) rfl ?hy229 ?_
                            case hy229 => exact Yl.ixkn (k := 3) rfl rfl rfl Try.underlying22 (by kernel_rfl) (by omega)
                            refine' TA.y (i := 3) #[true, true, true, true, false, false, false, false, false, false, false, false, false, false, false, false, false, false] rfl rfl rfl (by kernel_rfl) (fun _ _ _ h => h) (fun _ h => by exact Hp.sub h (by repeat (first | exact List.Sublist.refl _ | apply List.Sublist.cons))) rfl ?hy230 ?_
                            case hy230 => first | exact Yl.field0 (k := 0) 0 rfl rfl Try.underlying38 rfl (by kernel_rfl) rfl | exact Yl.field (k := 0) 0 rfl rfl Try.underlying38 rfl (by kernel_rfl) rfl
                            refine' TA.y (i := 4) #[true, true, true, true, true, false, false, false, false, false, false, false, false, false, false, false, false, false] rfl rfl rfl (by kernel_rfl) (fun _ _ _ h => h) (fun _ h => by exact Hp.sub h (by repeat (first | exact List.Sublist.refl _ | apply List.Sublist.cons))) rfl ?hy231 ?_
                            case hy231 => first | exact Yl.load rfl rfl (by kernel_rfl) (Hp.vw mem0 (by omega)) | exact Yl.load rfl rfl (by kernel_rfl) (Hp.vw mem1 (by omega)) | exact Yl.load rfl rfl (by kernel_rfl) (Hp.vw mem2 (by omega)) | exact Yl.load rfl rfl (by kernel_rfl) (Sl.nw hS (i := 0) rfl (by omega) (by decide)) | exact Yl.load rfl rfl (by kernel_rfl) (Sl.nw hS (i := 1) rfl (by omega) (by decide)) | exact Yl.load rfl rfl (by kernel_rfl) (Sl.nw hS (i := 2) rfl (by omega) (by decide)) | exact Yl.load rfl rfl (by kernel_rfl) (Hp.cell mem0 rfl) | exact Yl.load rfl rfl (by kernel_rfl) (Hp.cell mem1 rfl) | exact Yl.load rfl rfl (by kernel_rfl) (Hp.cell mem2 rfl) | exact Yl.load rfl rfl (by kernel_rfl) (Hp.cell mem3 rfl) | exact Yl.load rfl rfl (by kernel_rfl) (Hp.cell mem4 rfl) | exact Yl.load rfl rfl (by kernel_rfl) (Hp.rowAt mem0 (by omega) rfl) | exact Yl.load rfl rfl (by kernel_rfl) (Hp.rowAt mem1 (by omega) rfl) | exact Yl.load rfl rfl (by kernel_rfl) (Hp.rowAt mem2 (by omega) rfl) | exact Yl.load rfl rfl (by kernel_rfl) (Hp.rowAt mem3 (by omega) rfl) | exact Yl.load rfl rfl (by kernel_rfl) (Hp.rowAt mem4 (by omega) rfl)
                            refine TA.re (i := 177) (v' := .int .i64 (f i).1) rfl rfl ?_
                            refine' TA.y (i := 5) #[true, true, true, true, true, true, false, false, false, false, false, false, false, false, false, false, false, false] rfl rfl rfl (by kernel_rfl) (fun _ _ _ h => h) (fun _ h => by exact Hp.sub h (by repeat (first | exact List.Sublist.refl _ | apply List.Sublist.cons))) rfl ?hy232 ?_
                            case hy232 => exact Yl.move rfl rfl
                            refine' TA.y (i := 6) #[true, true, true, true, true, true, true, false, false, false, false, false, false, false, false, false, false, false] rfl rfl rfl (by kernel_rfl) (fun _ _ _ h => h) (fun _ h => by exact Hp.sub h (by repeat (first | exact List.Sublist.refl _ | apply List.Sublist.cons))) rfl ?hy233 ?_
                            case hy233 => exact Yl.bin rfl rfl rfl (Bin.eql _ _ _ _)
                            refine' TA.y (i := 7) #[true, true, true, true, true, true, true, true, false, false, false, false, false, false, false, false, false, false] rfl rfl rfl (by kernel_rfl) (fun _ _ _ h => h) (fun _ h => by exact Hp.sub h (by repeat (first | exact List.Sublist.refl _ | apply List.Sublist.cons))) rfl ?hy234 ?_
                            case hy234 => exact Yl.move rfl rfl
                            refine TA.split (i := 180) rfl (fun hs180 => ?_) (fun hs180 => ?_)
                            · skip
                              (try simp only [decide_eq_true_eq, decide_eq_false_iff_not, beq_iff_eq, beq_eq_false_iff_ne, bne_iff_ne, ne_eq, bne_eq_false_iff_eq, Bool.not_eq_true', Bool.not_eq_false', Int.not_lt, Int.not_le, gt_iff_lt, ge_iff_le] at hs180)
                              refine' TA.y (i := 8) #[true, true, true, true, true, true, true, true, true, false, false, false, false, false, false, false, false, false] rfl rfl rfl (by kernel_rfl) (fun _ _ _ h => h) (fun _ h => by exact Hp.sub h (by repeat (first | exact List.Sublist.refl _ | apply List.Sublist.cons))) rfl ?hy235 ?_
                              case hy235 => exact Yl.move rfl rfl
                              refine' TA.y (i := 9) #[true, true, true, true, true, true, true, true, true, true, false, false, false, false, false, false, false, false] rfl rfl rfl (by kernel_rfl) (fun _ _ _ h => h) (fun _ h => by exact Hp.sub h (by repeat (first | exact List.Sublist.refl _ | apply List.Sublist.cons))) rfl ?hy236 ?_
                              case hy236 => exact Yl.move rfl rfl
                              refine' TA.y (i := 10) #[true, true, true, true, true, true, true, true, true, true, true, false, false, false, false, false, false, false] rfl rfl rfl (by kernel_rfl) (fun _ _ _ h => h) (fun _ h => by exact Hp.sub h (by repeat (first | exact List.Sublist.refl _ | apply List.Sublist.cons))) rfl ?hy237 ?_
                              case hy237 => first | exact Yl.ixn rfl rfl rfl Try.underlying25 (by kernel_rfl) (by omega) | exact Yl.ixz rfl rfl rfl Try.underlying25 (by kernel_rfl) (by omega) (by omega) | exact Yl.ixcn rfl rfl rfl Try.underlying25 (by kernel_rfl) (by omega) | exact Yl.ixcz rfl rfl rfl Try.underlying25 (by kernel_rfl) (by omega) (by omega)
                              refine' TA.y (i := 11) #[true, true, true, true, true, true, true, true, true, true, true, true, false, false, false, false, false, false] rfl rfl rfl (by kernel_rfl) (fun _ _ _ h => h) (fun _ h => by exact Hp.sub h (by repeat (first | exact List.Sublist.refl _ | apply List.Sublist.cons))) rfl ?hy238 ?_
                              case hy238 => first | exact Yl.load rfl rfl (by kernel_rfl) (Hp.vw mem0 (by omega)) | exact Yl.load rfl rfl (by kernel_rfl) (Hp.vw mem1 (by omega)) | exact Yl.load rfl rfl (by kernel_rfl) (Hp.vw mem2 (by omega)) | exact Yl.load rfl rfl (by kernel_rfl) (Sl.nw hS (i := 0) rfl (by omega) (by decide)) | exact Yl.load rfl rfl (by kernel_rfl) (Sl.nw hS (i := 1) rfl (by omega) (by decide)) | exact Yl.load rfl rfl (by kernel_rfl) (Sl.nw hS (i := 2) rfl (by omega) (by decide)) | exact Yl.load rfl rfl (by kernel_rfl) (Hp.cell mem0 rfl) | exact Yl.load rfl rfl (by kernel_rfl) (Hp.cell mem1 rfl) | exact Yl.load rfl rfl (by kernel_rfl) (Hp.cell mem2 rfl) | exact Yl.load rfl rfl (by kernel_rfl) (Hp.cell mem3 rfl) | exact Yl.load rfl rfl (by kernel_rfl) (Hp.cell mem4 rfl) | exact Yl.load rfl rfl (by kernel_rfl) (Hp.rowAt mem0 (by omega) rfl) | exact Yl.load rfl rfl (by kernel_rfl) (Hp.rowAt mem1 (by omega) rfl) | exact Yl.load rfl rfl (by kernel_rfl) (Hp.rowAt mem2 (by omega) rfl) | exact Yl.load rfl rfl (by kernel_rfl) (Hp.rowAt mem3 (by omega) rfl) | exact Yl.load rfl rfl (by kernel_rfl) (Hp.rowAt mem4 (by omega) rfl)
                              refine' TA.y (i := 12) #[true, true, true, true, true, true, true, true, true, true, true, true, true, false, false, false, false, false] rfl rfl rfl (by kernel_rfl) (fun _ _ _ h => h) (fun _ h => by exact Hp.sub h (by repeat (first | exact List.Sublist.refl _ | apply List.Sublist.cons))) rfl ?hy239 ?_
                              case hy239 => exact Yl.move rfl rfl
                              refine' TA.y (i := 13) #[true, true, true, true, true, true, true, true, true, true, true, true, true, true, false, false, false, false] rfl rfl rfl (by kernel_rfl) (fun _ _ _ h => h) (fun _ h => by exact Hp.sub h (by repeat (first | exact List.Sublist.refl _ | apply List.Sublist.cons))) rfl ?hy240 ?_
                              case hy240 => exact Yl.move rfl rfl
                              refine' TA.y (i := 14) #[true, true, true, true, true, true, true, true, true, true, true, true, true, true, true, false, false, false] rfl rfl rfl (by kernel_rfl) (fun _ _ _ h => h) (fun _ h => by exact Hp.sub h (by repeat (first | exact List.Sublist.refl _ | apply List.Sublist.cons))) rfl ?hy241 ?_
                              case hy241 => first | exact Yl.ixn rfl rfl rfl Try.underlying25 (by kernel_rfl) (by omega) | exact Yl.ixz rfl rfl rfl Try.underlying25 (by kernel_rfl) (by omega) (by omega) | exact Yl.ixcn rfl rfl rfl Try.underlying25 (by kernel_rfl) (by omega) | exact Yl.ixcz rfl rfl rfl Try.underlying25 (by kernel_rfl) (by omega) (by omega)
                              refine' TA.y (i := 15) #[true, true, true, true, true, true, true, true, true, true, true, true, true, true, true, true, false, false] rfl rfl rfl (by kernel_rfl) (fun _ _ _ h => h) (fun _ h => by exact Hp.sub h (by repeat (first | exact List.Sublist.refl _ | apply List.Sublist.cons))) rfl ?hy242 ?_
                              case hy242 => first | exact Yl.load rfl rfl (by kernel_rfl) (Hp.vw mem0 (by omega)) | exact Yl.load rfl rfl (by kernel_rfl) (Hp.vw mem1 (by omega)) | exact Yl.load rfl rfl (by kernel_rfl) (Hp.vw mem2 (by omega)) | exact Yl.load rfl rfl (by kernel_rfl) (Sl.nw hS (i := 0) rfl (by omega) (by decide)) | exact Yl.load rfl rfl (by kernel_rfl) (Sl.nw hS (i := 1) rfl (by omega) (by decide)) | exact Yl.load rfl rfl (by kernel_rfl) (Sl.nw hS (i := 2) rfl (by omega) (by decide)) | exact Yl.load rfl rfl (by kernel_rfl) (Hp.cell mem0 rfl) | exact Yl.load rfl rfl (by kernel_rfl) (Hp.cell mem1 rfl) | exact Yl.load rfl rfl (by kernel_rfl) (Hp.cell mem2 rfl) | exact Yl.load rfl rfl (by kernel_rfl) (Hp.cell mem3 rfl) | exact Yl.load rfl rfl (by kernel_rfl) (Hp.cell mem4 rfl) | exact Yl.load rfl rfl (by kernel_rfl) (Hp.rowAt mem0 (by omega) rfl) | exact Yl.load rfl rfl (by kernel_rfl) (Hp.rowAt mem1 (by omega) rfl) | exact Yl.load rfl rfl (by kernel_rfl) (Hp.rowAt mem2 (by omega) rfl) | exact Yl.load rfl rfl (by kernel_rfl) (Hp.rowAt mem3 (by omega) rfl) | exact Yl.load rfl rfl (by kernel_rfl) (Hp.rowAt mem4 (by omega) rfl)
                              refine' TA.y (i := 16) #[true, true, true, true, true, true, true, true, true, true, true, true, true, true, true, true, true, false] rfl rfl rfl (by kernel_rfl) (fun _ _ _ h => h) (fun _ h => by exact Hp.sub h (by repeat (first | exact List.Sublist.refl _ | apply List.Sublist.cons))) rfl ?hy243 ?_
                              case hy243 => exact Yl.bin rfl rfl rfl (Bin.neq _ _ _ _)
                              refine' TA.y (i := 17) #[true, true, true, true, true, true, true, true, true, true, true, true, true, true, true, true, true, true] rfl rfl rfl (by kernel_rfl) (fun _ _ _ h => h) (fun _ h => by exact Hp.sub h (by repeat (first | exact List.Sublist.refl _ | apply List.Sublist.cons))) rfl ?hy244 ?_
                              case hy244 => exact Yl.pickT rfl rfl rfl
                              refine TA.done (by kernel_rfl) ?_
                              refine TE.next ?_
                              refine TC.no rfl (by rw [all_top hv2 ht0 (fun _ _ => rfl) (fun _ _ => rfl) him (by assumption)]; simp) ?_
                              refine TC.skip ?_
                              refine TE.inNormal ?_
                              refine TE.next ?_
                              refine TC.region ?_
                              refine' TL.y rfl rfl rfl ?hy245 ?_
                              case hy245 => exact Yl.move rfl rfl
                              refine' TL.y rfl rfl rfl ?hy246 ?_
                              case hy246 => first | (refine Yl.val (Yl.bin rfl rfl rfl (Bin.add _ _ _ _)) (congrArg (Value.int .i64) (i64in ?_ ?_)) <;> omega) | exact Yl.bin rfl rfl rfl (Bin.add _ _ _ _)
                              refine' TL.y rfl rfl rfl ?hy247 ?_
                              case hy247 => exact Yl.assign rfl rfl
                              refine TL.nil ?_
                              refine TE.round (i + 1) ?hF248 ?hlt248 ?hs248 ?hm248
                              case hF248 => omega
                              case hlt248 => omega
                              case hs248 => exact ⟨rfl, rfl, rfl, rfl, rfl, rfl, rfl, rfl, trivial⟩
                              case hm248 => exact fun _ h => h
                            · skip
                              (try simp only [decide_eq_true_eq, decide_eq_false_iff_not, beq_iff_eq, beq_eq_false_iff_ne, bne_iff_ne, ne_eq, bne_eq_false_iff_eq, Bool.not_eq_true', Bool.not_eq_false', Int.not_lt, Int.not_le, gt_iff_lt, ge_iff_le] at hs180)
                              refine TA.skip (i := 8) #[true, true, true, true, true, true, true, true, true, false, false, false, false, false, false, false, false, false] rfl rfl rfl (by kernel_rfl) (fun _ _ _ h => h) rfl ?_
                              refine TA.skip (i := 9) #[true, true, true, true, true, true, true, true, true, true, false, false, false, false, false, false, false, false] rfl rfl rfl (by kernel_rfl) (fun _ _ _ h => h) rfl ?_
                              refine TA.skip (i := 10) #[true, true, true, true, true, true, true, true, true, true, true, false, false, false, false, false, false, false] rfl rfl rfl (by kernel_rfl) (fun _ _ _ h => h) rfl ?_
                              refine TA.skip (i := 11) #[true, true, true, true, true, true, true, true, true, true, true, true, false, false, false, false, false, false] rfl rfl rfl (by kernel_rfl) (fun _ _ _ h => h) rfl ?_
                              refine TA.skip (i := 12) #[true, true, true, true, true, true, true, true, true, true, true, true, true, false, false, false, false, false] rfl rfl rfl (by kernel_rfl) (fun _ _ _ h => h) rfl ?_
                              refine TA.skip (i := 13) #[true, true, true, true, true, true, true, true, true, true, true, true, true, true, false, false, false, false] rfl rfl rfl (by kernel_rfl) (fun _ _ _ h => h) rfl ?_
                              refine TA.skip (i := 14) #[true, true, true, true, true, true, true, true, true, true, true, true, true, true, true, false, false, false] rfl rfl rfl (by kernel_rfl) (fun _ _ _ h => h) rfl ?_
                              refine TA.skip (i := 15) #[true, true, true, true, true, true, true, true, true, true, true, true, true, true, true, true, false, false] rfl rfl rfl (by kernel_rfl) (fun _ _ _ h => h) rfl ?_
                              refine TA.skip (i := 16) #[true, true, true, true, true, true, true, true, true, true, true, true, true, true, true, true, true, false] rfl rfl rfl (by kernel_rfl) (fun _ _ _ h => h) rfl ?_
                              refine' TA.y (i := 17) #[true, true, true, true, true, true, true, true, true, true, true, true, true, true, true, true, true, true] rfl rfl rfl (by kernel_rfl) (fun _ _ _ h => h) (fun _ h => by exact Hp.sub h (by repeat (first | exact List.Sublist.refl _ | apply List.Sublist.cons))) rfl ?hy249 ?_
                              case hy249 => exact Yl.pickF rfl rfl rfl
                              refine TA.done (by kernel_rfl) ?_
                              refine TE.next ?_
                              refine TC.no rfl rfl ?_
                              refine TC.skip ?_
                              refine TE.inNormal ?_
                              refine TE.next ?_
                              refine TC.region ?_
                              refine' TL.y rfl rfl rfl ?hy250 ?_
                              case hy250 => exact Yl.move rfl rfl
                              refine' TL.y rfl rfl rfl ?hy251 ?_
                              case hy251 => first | (refine Yl.val (Yl.bin rfl rfl rfl (Bin.add _ _ _ _)) (congrArg (Value.int .i64) (i64in ?_ ?_)) <;> omega) | exact Yl.bin rfl rfl rfl (Bin.add _ _ _ _)
                              refine' TL.y rfl rfl rfl ?hy252 ?_
                              case hy252 => exact Yl.assign rfl rfl
                              refine TL.nil ?_
                              refine TE.round (i + 1) ?hF253 ?hlt253 ?hs253 ?hm253
                              case hF253 => omega
                              case hlt253 => omega
                              case hs253 => exact ⟨rfl, rfl, rfl, rfl, rfl, rfl, rfl, rfl, trivial⟩
                              case hm253 => exact fun _ h => h
                        · skip
                          (try simp only [decide_eq_true_eq, decide_eq_false_iff_not, beq_iff_eq, beq_eq_false_iff_ne, bne_iff_ne, ne_eq, bne_eq_false_iff_eq, Bool.not_eq_true', Bool.not_eq_false', Int.not_lt, Int.not_le, gt_iff_lt, ge_iff_le] at hs161)
                          refine TA.skip (i := 15) #[true, true, true, true, true, true, true, true, true, true, true, true, true, true, true, true, false, false, false, false, false, false] rfl rfl rfl (by kernel_rfl) (fun _ _ _ h => h) rfl ?_
                          refine TA.skip (i := 16) #[true, true, true, true, true, true, true, true, true, true, true, true, true, true, true, true, true, false, false, false, false, false] rfl rfl rfl (by kernel_rfl) (fun _ _ _ h => h) rfl ?_
                          refine TA.skip (i := 17) #[true, true, true, true, true, true, true, true, true, true, true, true, true, true, true, true, true, true, false, false, false, false] rfl rfl rfl (by kernel_rfl) (fun _ _ _ h => h) rfl ?_
                          refine TA.skip (i := 18) #[true, true, true, true, true, true, true, true, true, true, true, true, true, true, true, true, true, true, true, false, false, false] rfl rfl rfl (by kernel_rfl) (fun _ _ _ h => h) rfl ?_
                          refine TA.skip (i := 19) #[true, true, true, true, true, true, true, true, true, true, true, true, true, true, true, true, true, true, true, true, false, false] rfl rfl rfl (by kernel_rfl) (fun _ _ _ h => h) rfl ?_
                          refine' TA.y (i := 20) #[true, true, true, true, true, true, true, true, true, true, true, true, true, true, true, true, true, true, true, true, true, false] rfl rfl rfl (by kernel_rfl) (fun _ _ _ h => h) (fun _ h => by exact Hp.sub h (by repeat (first | exact List.Sublist.refl _ | apply List.Sublist.cons))) rfl ?hy254 ?_
                          case hy254 => exact Yl.pickF rfl rfl rfl
                          refine' TA.y (i := 21) #[true, true, true, true, true, true, true, true, true, true, true, true, true, true, true, true, true, true, true, true, true, true] rfl rfl rfl (by kernel_rfl) (fun _ _ _ h => h) (fun _ h => by exact Hp.sub h (by repeat (first | exact List.Sublist.refl _ | apply List.Sublist.cons))) rfl ?hy255 ?_
                          case hy255 => exact Yl.assign rfl rfl
                          refine TA.done (by kernel_rfl) ?_
                          refine TE.next ?_
                          refine TC.seq ?_
                          refine TC.seq ?_
                          refine TC.region ?_
                          refine' TL.y rfl rfl rfl ?hy256 ?_
                          case hy256 => exact Yl.move rfl rfl
                          refine' TL.y rfl rfl rfl ?hy257 ?_
                          case hy257 => exact Yl.move rfl rfl
                          refine TL.skip rfl rfl rfl ?_
                          refine TL.skip rfl rfl rfl ?_
                          refine' TL.y rfl rfl rfl ?hy258 ?_
                          case hy258 => exact Yl.pickF rfl rfl rfl
                          refine TL.nil ?_
                          refine TE.next ?_
                          refine TC.no rfl rfl ?_
                          refine TC.skip ?_
                          refine TE.next ?_
                          refine TC.seq ?_
                          refine TC.draw (k := 18) _ [] #[false, false, false, false, false, false, false, false, false, false, false, false, false, false, false, false, false, false] (by kernel_rfl) rfl rfl (fun _ h => h.drew) (fun _ h => h) ?_
                          refine' TA.y (i := 0) #[true, false, false, false, false, false, false, false, false, false, false, false, false, false, false, false, false, false] rfl rfl rfl (by kernel_rfl) (fun _ _ _ h => h) (fun _ h => by exact Hp.sub h (by repeat (first | exact List.Sublist.refl _ | apply List.Sublist.cons))) rfl ?hy259 ?_
                          case hy259 => exact Yl.move rfl rfl
                          refine' TA.y (i := 1) #[true, true, false, false, false, false, false, false, false, false, false, false, false, false, false, false, false, false] rfl rfl rfl (by kernel_rfl) (fun _ _ _ h => h) (fun _ h => by exact Hp.sub h (by repeat (first | exact List.Sublist.refl _ | apply List.Sublist.cons))) rfl ?hy260 ?_
                          case hy260 => exact Yl.move rfl rfl
                          refine' TA.y (i := 2) #[true, true, true, false, false, false, false, false, false, false, false, false, false, false, false, false, false, false] rfl rfl rfl (by kernel_rfl) (fun _ _ _ h => h) (fun _ h => by exact Hp.sub h (by repeat (first | exact List.Sublist.refl _ | apply List.Sublist.cons))) rfl ?hy261 ?_
                          case hy261 => exact Yl.ixkn (k := 3) rfl rfl rfl Try.underlying22 (by kernel_rfl) (by omega)
                          refine' TA.y (i := 3) #[true, true, true, true, false, false, false, false, false, false, false, false, false, false, false, false, false, false] rfl rfl rfl (by kernel_rfl) (fun _ _ _ h => h) (fun _ h => by exact Hp.sub h (by repeat (first | exact List.Sublist.refl _ | apply List.Sublist.cons))) rfl ?hy262 ?_
                          case hy262 => first | exact Yl.field0 (k := 0) 0 rfl rfl Try.underlying38 rfl (by kernel_rfl) rfl | exact Yl.field (k := 0) 0 rfl rfl Try.underlying38 rfl (by kernel_rfl) rfl
                          refine' TA.y (i := 4) #[true, true, true, true, true, false, false, false, false, false, false, false, false, false, false, false, false, false] rfl rfl rfl (by kernel_rfl) (fun _ _ _ h => h) (fun _ h => by exact Hp.sub h (by repeat (first | exact List.Sublist.refl _ | apply List.Sublist.cons))) rfl ?hy263 ?_
                          case hy263 => first | exact Yl.load rfl rfl (by kernel_rfl) (Hp.vw mem0 (by omega)) | exact Yl.load rfl rfl (by kernel_rfl) (Hp.vw mem1 (by omega)) | exact Yl.load rfl rfl (by kernel_rfl) (Hp.vw mem2 (by omega)) | exact Yl.load rfl rfl (by kernel_rfl) (Sl.nw hS (i := 0) rfl (by omega) (by decide)) | exact Yl.load rfl rfl (by kernel_rfl) (Sl.nw hS (i := 1) rfl (by omega) (by decide)) | exact Yl.load rfl rfl (by kernel_rfl) (Sl.nw hS (i := 2) rfl (by omega) (by decide)) | exact Yl.load rfl rfl (by kernel_rfl) (Hp.cell mem0 rfl) | exact Yl.load rfl rfl (by kernel_rfl) (Hp.cell mem1 rfl) | exact Yl.load rfl rfl (by kernel_rfl) (Hp.cell mem2 rfl) | exact Yl.load rfl rfl (by kernel_rfl) (Hp.cell mem3 rfl) | exact Yl.load rfl rfl (by kernel_rfl) (Hp.cell mem4 rfl) | exact Yl.load rfl rfl (by kernel_rfl) (Hp.rowAt mem0 (by omega) rfl) | exact Yl.load rfl rfl (by kernel_rfl) (Hp.rowAt mem1 (by omega) rfl) | exact Yl.load rfl rfl (by kernel_rfl) (Hp.rowAt mem2 (by omega) rfl) | exact Yl.load rfl rfl (by kernel_rfl) (Hp.rowAt mem3 (by omega) rfl) | exact Yl.load rfl rfl (by kernel_rfl) (Hp.rowAt mem4 (by omega) rfl)
                          refine TA.re (i := 177) (v' := .int .i64 (f i).1) rfl rfl ?_
                          refine' TA.y (i := 5) #[true, true, true, true, true, true, false, false, false, false, false, false, false, false, false, false, false, false] rfl rfl rfl (by kernel_rfl) (fun _ _ _ h => h) (fun _ h => by exact Hp.sub h (by repeat (first | exact List.Sublist.refl _ | apply List.Sublist.cons))) rfl ?hy264 ?_
                          case hy264 => exact Yl.move rfl rfl
                          refine' TA.y (i := 6) #[true, true, true, true, true, true, true, false, false, false, false, false, false, false, false, false, false, false] rfl rfl rfl (by kernel_rfl) (fun _ _ _ h => h) (fun _ h => by exact Hp.sub h (by repeat (first | exact List.Sublist.refl _ | apply List.Sublist.cons))) rfl ?hy265 ?_
                          case hy265 => exact Yl.bin rfl rfl rfl (Bin.eql _ _ _ _)
                          refine' TA.y (i := 7) #[true, true, true, true, true, true, true, true, false, false, false, false, false, false, false, false, false, false] rfl rfl rfl (by kernel_rfl) (fun _ _ _ h => h) (fun _ h => by exact Hp.sub h (by repeat (first | exact List.Sublist.refl _ | apply List.Sublist.cons))) rfl ?hy266 ?_
                          case hy266 => exact Yl.move rfl rfl
                          refine TA.split (i := 180) rfl (fun hs180 => ?_) (fun hs180 => ?_)
                          · skip
                            (try simp only [decide_eq_true_eq, decide_eq_false_iff_not, beq_iff_eq, beq_eq_false_iff_ne, bne_iff_ne, ne_eq, bne_eq_false_iff_eq, Bool.not_eq_true', Bool.not_eq_false', Int.not_lt, Int.not_le, gt_iff_lt, ge_iff_le] at hs180)
                            refine' TA.y (i := 8) #[true, true, true, true, true, true, true, true, true, false, false, false, false, false, false, false, false, false] rfl rfl rfl (by kernel_rfl) (fun _ _ _ h => h) (fun _ h => by exact Hp.sub h (by repeat (first | exact List.Sublist.refl _ | apply List.Sublist.cons))) rfl ?hy267 ?_
                            case hy267 => exact Yl.move rfl rfl
                            refine' TA.y (i := 9) #[true, true, true, true, true, true, true, true, true, true, false, false, false, false, false, false, false, false] rfl rfl rfl (by kernel_rfl) (fun _ _ _ h => h) (fun _ h => by exact Hp.sub h (by repeat (first | exact List.Sublist.refl _ | apply List.Sublist.cons))) rfl ?hy268 ?_
                            case hy268 => exact Yl.move rfl rfl
                            refine' TA.y (i := 10) #[true, true, true, true, true, true, true, true, true, true, true, false, false, false, false, false, false, false] rfl rfl rfl (by kernel_rfl) (fun _ _ _ h => h) (fun _ h => by exact Hp.sub h (by repeat (first | exact List.Sublist.refl _ | apply List.Sublist.cons))) rfl ?hy269 ?_
                            case hy269 => first | exact Yl.ixn rfl rfl rfl Try.underlying25 (by kernel_rfl) (by omega) | exact Yl.ixz rfl rfl rfl Try.underlying25 (by kernel_rfl) (by omega) (by omega) | exact Yl.ixcn rfl rfl rfl Try.underlying25 (by kernel_rfl) (by omega) | exact Yl.ixcz rfl rfl rfl Try.underlying25 (by kernel_rfl) (by omega) (by omega)
                            refine' TA.y (i := 11) #[true, true, true, true, true, true, true, true, true, true, true, true, false, false, false, false, false, false] rfl rfl rfl (by kernel_rfl) (fun _ _ _ h => h) (fun _ h => by exact Hp.sub h (by repeat (first | exact List.Sublist.refl _ | apply List.Sublist.cons))) rfl ?hy270 ?_
                            case hy270 => first | exact Yl.load rfl rfl (by kernel_rfl) (Hp.vw mem0 (by omega)) | exact Yl.load rfl rfl (by kernel_rfl) (Hp.vw mem1 (by omega)) | exact Yl.load rfl rfl (by kernel_rfl) (Hp.vw mem2 (by omega)) | exact Yl.load rfl rfl (by kernel_rfl) (Sl.nw hS (i := 0) rfl (by omega) (by decide)) | exact Yl.load rfl rfl (by kernel_rfl) (Sl.nw hS (i := 1) rfl (by omega) (by decide)) | exact Yl.load rfl rfl (by kernel_rfl) (Sl.nw hS (i := 2) rfl (by omega) (by decide)) | exact Yl.load rfl rfl (by kernel_rfl) (Hp.cell mem0 rfl) | exact Yl.load rfl rfl (by kernel_rfl) (Hp.cell mem1 rfl) | exact Yl.load rfl rfl (by kernel_rfl) (Hp.cell mem2 rfl) | exact Yl.load rfl rfl (by kernel_rfl) (Hp.cell mem3 rfl) | exact Yl.load rfl rfl (by kernel_rfl) (Hp.cell mem4 rfl) | exact Yl.load rfl rfl (by kernel_rfl) (Hp.rowAt mem0 (by omega) rfl) | exact Yl.load rfl rfl (by kernel_rfl) (Hp.rowAt mem1 (by omega) rfl) | exact Yl.load rfl rfl (by kernel_rfl) (Hp.rowAt mem2 (by omega) rfl) | exact Yl.load rfl rfl (by kernel_rfl) (Hp.rowAt mem3 (by omega) rfl) | exact Yl.load rfl rfl (by kernel_rfl) (Hp.rowAt mem4 (by omega) rfl)
                            refine' TA.y (i := 12) #[true, true, true, true, true, true, true, true, true, true, true, true, true, false, false, false, false, false] rfl rfl rfl (by kernel_rfl) (fun _ _ _ h => h) (fun _ h => by exact Hp.sub h (by repeat (first | exact List.Sublist.refl _ | apply List.Sublist.cons))) rfl ?hy271 ?_
                            case hy271 => exact Yl.move rfl rfl
                            refine' TA.y (i := 13) #[true, true, true, true, true, true, true, true, true, true, true, true, true, true, false, false, false, false] rfl rfl rfl (by kernel_rfl) (fun _ _ _ h => h) (fun _ h => by exact Hp.sub h (by repeat (first | exact List.Sublist.refl _ | apply List.Sublist.cons))) rfl ?hy272 ?_
                            case hy272 => exact Yl.move rfl rfl
                            refine' TA.y (i := 14) #[true, true, true, true, true, true, true, true, true, true, true, true, true, true, true, false, false, false] rfl rfl rfl (by kernel_rfl) (fun _ _ _ h => h) (fun _ h => by exact Hp.sub h (by repeat (first | exact List.Sublist.refl _ | apply List.Sublist.cons))) rfl ?hy273 ?_
                            case hy273 => first | exact Yl.ixn rfl rfl rfl Try.underlying25 (by kernel_rfl) (by omega) | exact Yl.ixz rfl rfl rfl Try.underlying25 (by kernel_rfl) (by omega) (by omega) | exact Yl.ixcn rfl rfl rfl Try.underlying25 (by kernel_rfl) (by omega) | exact Yl.ixcz rfl rfl rfl Try.underlying25 (by kernel_rfl) (by omega) (by omega)
                            refine' TA.y (i := 15) #[true, true, true, true, true, true, true, true, true, true, true, true, true, true, true, true, false, false] rfl rfl rfl (by kernel_rfl) (fun _ _ _ h => h) (fun _ h => by exact Hp.sub h (by repeat (first | exact List.Sublist.refl _ | apply List.Sublist.cons))) rfl ?hy274 ?_
                            case hy274 => first | exact Yl.load rfl rfl (by kernel_rfl) (Hp.vw mem0 (by omega)) | exact Yl.load rfl rfl (by kernel_rfl) (Hp.vw mem1 (by omega)) | exact Yl.load rfl rfl (by kernel_rfl) (Hp.vw mem2 (by omega)) | exact Yl.load rfl rfl (by kernel_rfl) (Sl.nw hS (i := 0) rfl (by omega) (by decide)) | exact Yl.load rfl rfl (by kernel_rfl) (Sl.nw hS (i := 1) rfl (by omega) (by decide)) | exact Yl.load rfl rfl (by kernel_rfl) (Sl.nw hS (i := 2) rfl (by omega) (by decide)) | exact Yl.load rfl rfl (by kernel_rfl) (Hp.cell mem0 rfl) | exact Yl.load rfl rfl (by kernel_rfl) (Hp.cell mem1 rfl) | exact Yl.load rfl rfl (by kernel_rfl) (Hp.cell mem2 rfl) | exact Yl.load rfl rfl (by kernel_rfl) (Hp.cell mem3 rfl) | exact Yl.load rfl rfl (by kernel_rfl) (Hp.cell mem4 rfl) | exact Yl.load rfl rfl (by kernel_rfl) (Hp.rowAt mem0 (by omega) rfl) | exact Yl.load rfl rfl (by kernel_rfl) (Hp.rowAt mem1 (by omega) rfl) | exact Yl.load rfl rfl (by kernel_rfl) (Hp.rowAt mem2 (by omega) rfl) | exact Yl.load rfl rfl (by kernel_rfl) (Hp.rowAt mem3 (by omega) rfl) | exact Yl.load rfl rfl (by kernel_rfl) (Hp.rowAt mem4 (by omega) rfl)
                            refine' TA.y (i := 16) #[true, true, true, true, true, true, true, true, true, true, true, true, true, true, true, true, true, false] rfl rfl rfl (by kernel_rfl) (fun _ _ _ h => h) (fun _ h => by exact Hp.sub h (by repeat (first | exact List.Sublist.refl _ | apply List.Sublist.cons))) rfl ?hy275 ?_
                            case hy275 => exact Yl.bin rfl rfl rfl (Bin.neq _ _ _ _)
                            refine' TA.y (i := 17) #[true, true, true, true, true, true, true, true, true, true, true, true, true, true, true, true, true, true] rfl rfl rfl (by kernel_rfl) (fun _ _ _ h => h) (fun _ h => by exact Hp.sub h (by repeat (first | exact List.Sublist.refl _ | apply List.Sublist.cons))) rfl ?hy276 ?_
                            case hy276 => exact Yl.pickT rfl rfl rfl
                            refine TA.done (by kernel_rfl) ?_
                            refine TE.next ?_
                            refine TC.no rfl (by rw [all_top hv2 ht0 (fun _ _ => rfl) (fun _ _ => rfl) him (by assumption)]; simp) ?_
                            refine TC.skip ?_
                            refine TE.inNormal ?_
                            refine TE.next ?_
                            refine TC.region ?_
                            refine' TL.y rfl rfl rfl ?hy277 ?_
                            case hy277 => exact Yl.move rfl rfl
                            refine' TL.y rfl rfl rfl ?hy278 ?_
                            case hy278 => first | (refine Yl.val (Yl.bin rfl rfl rfl (Bin.add _ _ _ _)) (congrArg (Value.int .i64) (i64in ?_ ?_)) <;> omega) | exact Yl.bin rfl rfl rfl (Bin.add _ _ _ _)
                            refine' TL.y rfl rfl rfl ?hy279 ?_
                            case hy279 => exact Yl.assign rfl rfl
                            refine TL.nil ?_
                            refine TE.round (i + 1) ?hF280 ?hlt280 ?hs280 ?hm280
                            case hF280 => omega
                            case hlt280 => omega
                            case hs280 => exact ⟨rfl, rfl, rfl, rfl, rfl, rfl, rfl, rfl, trivial⟩
                            case hm280 => exact fun _ h => h
                          · skip
                            (try simp only [decide_eq_true_eq, decide_eq_false_iff_not, beq_iff_eq, beq_eq_false_iff_ne, bne_iff_ne, ne_eq, bne_eq_false_iff_eq, Bool.not_eq_true', Bool.not_eq_false', Int.not_lt, Int.not_le, gt_iff_lt, ge_iff_le] at hs180)
                            refine TA.skip (i := 8) #[true, true, true, true, true, true, true, true, true, false, false, false, false, false, false, false, false, false] rfl rfl rfl (by kernel_rfl) (fun _ _ _ h => h) rfl ?_
                            refine TA.skip (i := 9) #[true, true, true, true, true, true, true, true, true, true, false, false, false, false, false, false, false, false] rfl rfl rfl (by kernel_rfl) (fun _ _ _ h => h) rfl ?_
                            refine TA.skip (i := 10) #[true, true, true, true, true, true, true, true, true, true, true, false, false, false, false, false, false, false] rfl rfl rfl (by kernel_rfl) (fun _ _ _ h => h) rfl ?_
                            refine TA.skip (i := 11) #[true, true, true, true, true, true, true, true, true, true, true, true, false, false, false, false, false, false] rfl rfl rfl (by kernel_rfl) (fun _ _ _ h => h) rfl ?_
                            refine TA.skip (i := 12) #[true, true, true, true, true, true, true, true, true, true, true, true, true, false, false, false, false, false] rfl rfl rfl (by kernel_rfl) (fun _ _ _ h => h) rfl ?_
                            refine TA.skip (i := 13) #[true, true, true, true, true, true, true, true, true, true, true, true, true, true, false, false, false, false] rfl rfl rfl (by kernel_rfl) (fun _ _ _ h => h) rfl ?_
                            refine TA.skip (i := 14) #[true, true, true, true, true, true, true, true, true, true, true, true, true, true, true, false, false, false] rfl rfl rfl (by kernel_rfl) (fun _ _ _ h => h) rfl ?_
                            refine TA.skip (i := 15) #[true, true, true, true, true, true, true, true, true, true, true, true, true, true, true, true, false, false] rfl rfl rfl (by kernel_rfl) (fun _ _ _ h => h) rfl ?_
                            refine TA.skip (i := 16) #[true, true, true, true, true, true, true, true, true, true, true, true, true, true, true, true, true, false] rfl rfl rfl (by kernel_rfl) (fun _ _ _ h => h) rfl ?_
                            refine' TA.y (i := 17) #[true, true, true, true, true, true, true, true, true, true, true, true, true, true, true, true, true, true] rfl rfl rfl (by kernel_rfl) (fun _ _ _ h => h) (fun _ h => by exact Hp.sub h (by repeat (first | exact List.Sublist.refl _ | apply List.Sublist.cons))) rfl ?hy281 ?_
                            case hy281 => exact Yl.pickF rfl rfl rfl
                            refine TA.done (by kernel_rfl) ?_
                            refine TE.next ?_
                            refine TC.no rfl rfl ?_
                            refine TC.skip ?_
                            refine TE.inNormal ?_
                            refine TE.next ?_
                            refine TC.region ?_
                            refine' TL.y rfl rfl rfl ?hy282 ?_
                            case hy282 => exact Yl.move rfl rfl
                            refine' TL.y rfl rfl rfl ?hy283 ?_
                            case hy283 => first | (refine Yl.val (Yl.bin rfl rfl rfl (Bin.add _ _ _ _)) (congrArg (Value.int .i64) (i64in ?_ ?_)) <;> omega) | exact Yl.bin rfl rfl rfl (Bin.add _ _ _ _)
                            refine' TL.y rfl rfl rfl ?hy284 ?_
                            case hy284 => exact Yl.assign rfl rfl
                            refine TL.nil ?_
                            refine TE.round (i + 1) ?hF285 ?hlt285 ?hs285 ?hm285
                            case hF285 => omega
                            case hlt285 => omega
                            case hs285 => exact ⟨rfl, rfl, rfl, rfl, rfl, rfl, rfl, rfl, trivial⟩
                            case hm285 => exact fun _ h => h
                      · skip
                        (try simp only [decide_eq_true_eq, decide_eq_false_iff_not, beq_iff_eq, beq_eq_false_iff_ne, bne_iff_ne, ne_eq, bne_eq_false_iff_eq, Bool.not_eq_true', Bool.not_eq_false', Int.not_lt, Int.not_le, gt_iff_lt, ge_iff_le] at hs150)
                        refine TA.skip (i := 4) #[true, true, true, true, true, false, false, false, false, false, false, false, false, false, false, false, false, false, false, false, false, false] rfl rfl rfl (by kernel_rfl) (fun _ _ _ h => h) rfl ?_
                        refine TA.skip (i := 5) #[true, true, true, true, true, true, false, false, false, false, false, false, false, false, false, false, false, false, false, false, false, false] rfl rfl rfl (by kernel_rfl) (fun _ _ _ h => h) rfl ?_
                        refine TA.skip (i := 6) #[true, true, true, true, true, true, true, false, false, false, false, false, false, false, false, false, false, false, false, false, false, false] rfl rfl rfl (by kernel_rfl) (fun _ _ _ h => h) rfl ?_
                        refine TA.skip (i := 7) #[true, true, true, true, true, true, true, true, false, false, false, false, false, false, false, false, false, false, false, false, false, false] rfl rfl rfl (by kernel_rfl) (fun _ _ _ h => h) rfl ?_
                        refine TA.skip (i := 8) #[true, true, true, true, true, true, true, true, true, false, false, false, false, false, false, false, false, false, false, false, false, false] rfl rfl rfl (by kernel_rfl) (fun _ _ _ h => h) rfl ?_
                        refine TA.skip (i := 9) #[true, true, true, true, true, true, true, true, true, true, false, false, false, false, false, false, false, false, false, false, false, false] rfl rfl rfl (by kernel_rfl) (fun _ _ _ h => h) rfl ?_
                        refine TA.skip (i := 10) #[true, true, true, true, true, true, true, true, true, true, true, false, false, false, false, false, false, false, false, false, false, false] rfl rfl rfl (by kernel_rfl) (fun _ _ _ h => h) rfl ?_
                        refine TA.skip (i := 11) #[true, true, true, true, true, true, true, true, true, true, true, true, false, false, false, false, false, false, false, false, false, false] rfl rfl rfl (by kernel_rfl) (fun _ _ _ h => h) rfl ?_
                        refine TA.skip (i := 12) #[true, true, true, true, true, true, true, true, true, true, true, true, true, false, false, false, false, false, false, false, false, false] rfl rfl rfl (by kernel_rfl) (fun _ _ _ h => h) rfl ?_
                        refine' TA.y (i := 13) #[true, true, true, true, true, true, true, true, true, true, true, true, true, true, false, false, false, false, false, false, false, false] rfl rfl rfl (by kernel_rfl) (fun _ _ _ h => h) (fun _ h => by exact Hp.sub h (by repeat (first | exact List.Sublist.refl _ | apply List.Sublist.cons))) rfl ?hy286 ?_
                        case hy286 => exact Yl.pickF rfl rfl rfl
                        refine' TA.y (i := 14) #[true, true, true, true, true, true, true, true, true, true, true, true, true, true, true, false, false, false, false, false, false, false] rfl rfl rfl (by kernel_rfl) (fun _ _ _ h => h) (fun _ h => by exact Hp.sub h (by repeat (first | exact List.Sublist.refl _ | apply List.Sublist.cons))) rfl ?hy287 ?_
                        case hy287 => exact Yl.move rfl rfl
                        refine TA.skip (i := 15) #[true, true, true, true, true, true, true, true, true, true, true, true, true, true, true, true, false, false, false, false, false, false] rfl rfl rfl (by kernel_rfl) (fun _ _ _ h => h) rfl ?_
                        refine TA.skip (i := 16) #[true, true, true, true, true, true, true, true, true, true, true, true, true, true, true, true, true, false, false, false, false, false] rfl rfl rfl (by kernel_rfl) (fun _ _ _ h => h) rfl ?_
                        refine TA.skip (i := 17) #[true, true, true, true, true, true, true, true, true, true, true, true, true, true, true, true, true, true, false, false, false, false] rfl rfl rfl (by kernel_rfl) (fun _ _ _ h => h) rfl ?_
                        refine TA.skip (i := 18) #[true, true, true, true, true, true, true, true, true, true, true, true, true, true, true, true, true, true, true, false, false, false] rfl rfl rfl (by kernel_rfl) (fun _ _ _ h => h) rfl ?_
                        refine TA.skip (i := 19) #[true, true, true, true, true, true, true, true, true, true, true, true, true, true, true, true, true, true, true, true, false, false] rfl rfl rfl (by kernel_rfl) (fun _ _ _ h => h) rfl ?_
                        refine' TA.y (i := 20) #[true, true, true, true, true, true, true, true, true, true, true, true, true, true, true, true, true, true, true, true, true, false] rfl rfl rfl (by kernel_rfl) (fun _ _ _ h => h) (fun _ h => by exact Hp.sub h (by repeat (first | exact List.Sublist.refl _ | apply List.Sublist.cons))) rfl ?hy288 ?_
                        case hy288 => exact Yl.pickF rfl rfl rfl
                        refine' TA.y (i := 21) #[true, true, true, true, true, true, true, true, true, true, true, true, true, true, true, true, true, true, true, true, true, true] rfl rfl rfl (by kernel_rfl) (fun _ _ _ h => h) (fun _ h => by exact Hp.sub h (by repeat (first | exact List.Sublist.refl _ | apply List.Sublist.cons))) rfl ?hy289 ?_
                        case hy289 => exact Yl.assign rfl rfl
                        refine TA.done (by kernel_rfl) ?_
                        refine TE.next ?_
                        refine TC.seq ?_
                        refine TC.seq ?_
                        refine TC.region ?_
                        refine' TL.y rfl rfl rfl ?hy290 ?_
                        case hy290 => exact Yl.move rfl rfl
                        refine' TL.y rfl rfl rfl ?hy291 ?_
                        case hy291 => exact Yl.move rfl rfl
                        refine TL.skip rfl rfl rfl ?_
                        refine TL.skip rfl rfl rfl ?_
                        refine' TL.y rfl rfl rfl ?hy292 ?_
                        case hy292 => exact Yl.pickF rfl rfl rfl
                        refine TL.nil ?_
                        refine TE.next ?_
                        refine TC.no rfl rfl ?_
                        refine TC.skip ?_
                        refine TE.next ?_
                        refine TC.seq ?_
                        refine TC.draw (k := 18) _ [] #[false, false, false, false, false, false, false, false, false, false, false, false, false, false, false, false, false, false] (by kernel_rfl) rfl rfl (fun _ h => h.drew) (fun _ h => h) ?_
                        refine' TA.y (i := 0) #[true, false, false, false, false, false, false, false, false, false, false, false, false, false, false, false, false, false] rfl rfl rfl (by kernel_rfl) (fun _ _ _ h => h) (fun _ h => by exact Hp.sub h (by repeat (first | exact List.Sublist.refl _ | apply List.Sublist.cons))) rfl ?hy293 ?_
                        case hy293 => exact Yl.move rfl rfl
                        refine' TA.y (i := 1) #[true, true, false, false, false, false, false, false, false, false, false, false, false, false, false, false, false, false] rfl rfl rfl (by kernel_rfl) (fun _ _ _ h => h) (fun _ h => by exact Hp.sub h (by repeat (first | exact List.Sublist.refl _ | apply List.Sublist.cons))) rfl ?hy294 ?_
                        case hy294 => exact Yl.move rfl rfl
                        refine' TA.y (i := 2) #[true, true, true, false, false, false, false, false, false, false, false, false, false, false, false, false, false, false] rfl rfl rfl (by kernel_rfl) (fun _ _ _ h => h) (fun _ h => by exact Hp.sub h (by repeat (first | exact List.Sublist.refl _ | apply List.Sublist.cons))) rfl ?hy295 ?_
                        case hy295 => exact Yl.ixkn (k := 3) rfl rfl rfl Try.underlying22 (by kernel_rfl) (by omega)
                        refine' TA.y (i := 3) #[true, true, true, true, false, false, false, false, false, false, false, false, false, false, false, false, false, false] rfl rfl rfl (by kernel_rfl) (fun _ _ _ h => h) (fun _ h => by exact Hp.sub h (by repeat (first | exact List.Sublist.refl _ | apply List.Sublist.cons))) rfl ?hy296 ?_
                        case hy296 => first | exact Yl.field0 (k := 0) 0 rfl rfl Try.underlying38 rfl (by kernel_rfl) rfl | exact Yl.field (k := 0) 0 rfl rfl Try.underlying38 rfl (by kernel_rfl) rfl
                        refine' TA.y (i := 4) #[true, true, true, true, true, false, false, false, false, false, false, false, false, false, false, false, false, false] rfl rfl rfl (by kernel_rfl) (fun _ _ _ h => h) (fun _ h => by exact Hp.sub h (by repeat (first | exact List.Sublist.refl _ | apply List.Sublist.cons))) rfl ?hy297 ?_
                        case hy297 => first | exact Yl.load rfl rfl (by kernel_rfl) (Hp.vw mem0 (by omega)) | exact Yl.load rfl rfl (by kernel_rfl) (Hp.vw mem1 (by omega)) | exact Yl.load rfl rfl (by kernel_rfl) (Hp.vw mem2 (by omega)) | exact Yl.load rfl rfl (by kernel_rfl) (Sl.nw hS (i := 0) rfl (by omega) (by decide)) | exact Yl.load rfl rfl (by kernel_rfl) (Sl.nw hS (i := 1) rfl (by omega) (by decide)) | exact Yl.load rfl rfl (by kernel_rfl) (Sl.nw hS (i := 2) rfl (by omega) (by decide)) | exact Yl.load rfl rfl (by kernel_rfl) (Hp.cell mem0 rfl) | exact Yl.load rfl rfl (by kernel_rfl) (Hp.cell mem1 rfl) | exact Yl.load rfl rfl (by kernel_rfl) (Hp.cell mem2 rfl) | exact Yl.load rfl rfl (by kernel_rfl) (Hp.cell mem3 rfl) | exact Yl.load rfl rfl (by kernel_rfl) (Hp.cell mem4 rfl) | exact Yl.load rfl rfl (by kernel_rfl) (Hp.rowAt mem0 (by omega) rfl) | exact Yl.load rfl rfl (by kernel_rfl) (Hp.rowAt mem1 (by omega) rfl) | exact Yl.load rfl rfl (by kernel_rfl) (Hp.rowAt mem2 (by omega) rfl) | exact Yl.load rfl rfl (by kernel_rfl) (Hp.rowAt mem3 (by omega) rfl) | exact Yl.load rfl rfl (by kernel_rfl) (Hp.rowAt mem4 (by omega) rfl)
                        refine TA.re (i := 177) (v' := .int .i64 (f i).1) rfl rfl ?_
                        refine' TA.y (i := 5) #[true, true, true, true, true, true, false, false, false, false, false, false, false, false, false, false, false, false] rfl rfl rfl (by kernel_rfl) (fun _ _ _ h => h) (fun _ h => by exact Hp.sub h (by repeat (first | exact List.Sublist.refl _ | apply List.Sublist.cons))) rfl ?hy298 ?_
                        case hy298 => exact Yl.move rfl rfl
                        refine' TA.y (i := 6) #[true, true, true, true, true, true, true, false, false, false, false, false, false, false, false, false, false, false] rfl rfl rfl (by kernel_rfl) (fun _ _ _ h => h) (fun _ h => by exact Hp.sub h (by repeat (first | exact List.Sublist.refl _ | apply List.Sublist.cons))) rfl ?hy299 ?_
                        case hy299 => exact Yl.bin rfl rfl rfl (Bin.eql _ _ _ _)
                        refine' TA.y (i := 7) #[true, true, true, true, true, true, true, true, false, false, false, false, false, false, false, false, false, false] rfl rfl rfl (by kernel_rfl) (fun _ _ _ h => h) (fun _ h => by exact Hp.sub h (by repeat (first | exact List.Sublist.refl _ | apply List.Sublist.cons))) rfl ?hy300 ?_
                        case hy300 => exact Yl.move rfl rfl
                        refine TA.split (i := 180) rfl (fun hs180 => ?_) (fun hs180 => ?_)
                        · skip
                          (try simp only [decide_eq_true_eq, decide_eq_false_iff_not, beq_iff_eq, beq_eq_false_iff_ne, bne_iff_ne, ne_eq, bne_eq_false_iff_eq, Bool.not_eq_true', Bool.not_eq_false', Int.not_lt, Int.not_le, gt_iff_lt, ge_iff_le] at hs180)
                          refine' TA.y (i := 8) #[true, true, true, true, true, true, true, true, true, false, false, false, false, false, false, false, false, false] rfl rfl rfl (by kernel_rfl) (fun _ _ _ h => h) (fun _ h => by exact Hp.sub h (by repeat (first | exact List.Sublist.refl _ | apply List.Sublist.cons))) rfl ?hy301 ?_
                          case hy301 => exact Yl.move rfl rfl
                          refine' TA.y (i := 9) #[true, true, true, true, true, true, true, true, true, true, false, false, false, false, false, false, false, false] rfl rfl rfl (by kernel_rfl) (fun _ _ _ h => h) (fun _ h => by exact Hp.sub h (by repeat (first | exact List.Sublist.refl _ | apply List.Sublist.cons))) rfl ?hy302 ?_
                          case hy302 => exact Yl.move rfl rfl
                          refine' TA.y (i := 10) #[true, true, true, true, true, true, true, true, true, true, true, false, false, false, false, false, false, false] rfl rfl rfl (by kernel_rfl) (fun _ _ _ h => h) (fun _ h => by exact Hp.sub h (by repeat (first | exact List.Sublist.refl _ | apply List.Sublist.cons))) rfl ?hy303 ?_
                          case hy303 => first | exact Yl.ixn rfl rfl rfl Try.underlying25 (by kernel_rfl) (by omega) | exact Yl.ixz rfl rfl rfl Try.underlying25 (by kernel_rfl) (by omega) (by omega) | exact Yl.ixcn rfl rfl rfl Try.underlying25 (by kernel_rfl) (by omega) | exact Yl.ixcz rfl rfl rfl Try.underlying25 (by kernel_rfl) (by omega) (by omega)
                          refine' TA.y (i := 11) #[true, true, true, true, true, true, true, true, true, true, true, true, false, false, false, false, false, false] rfl rfl rfl (by kernel_rfl) (fun _ _ _ h => h) (fun _ h => by exact Hp.sub h (by repeat (first | exact List.Sublist.refl _ | apply List.Sublist.cons))) rfl ?hy304 ?_
                          case hy304 => first | exact Yl.load rfl rfl (by kernel_rfl) (Hp.vw mem0 (by omega)) | exact Yl.load rfl rfl (by kernel_rfl) (Hp.vw mem1 (by omega)) | exact Yl.load rfl rfl (by kernel_rfl) (Hp.vw mem2 (by omega)) | exact Yl.load rfl rfl (by kernel_rfl) (Sl.nw hS (i := 0) rfl (by omega) (by decide)) | exact Yl.load rfl rfl (by kernel_rfl) (Sl.nw hS (i := 1) rfl (by omega) (by decide)) | exact Yl.load rfl rfl (by kernel_rfl) (Sl.nw hS (i := 2) rfl (by omega) (by decide)) | exact Yl.load rfl rfl (by kernel_rfl) (Hp.cell mem0 rfl) | exact Yl.load rfl rfl (by kernel_rfl) (Hp.cell mem1 rfl) | exact Yl.load rfl rfl (by kernel_rfl) (Hp.cell mem2 rfl) | exact Yl.load rfl rfl (by kernel_rfl) (Hp.cell mem3 rfl) | exact Yl.load rfl rfl (by kernel_rfl) (Hp.cell mem4 rfl) | exact Yl.load rfl rfl (by kernel_rfl) (Hp.rowAt mem0 (by omega) rfl) | exact Yl.load rfl rfl (by kernel_rfl) (Hp.rowAt mem1 (by omega) rfl) | exact Yl.load rfl rfl (by kernel_rfl) (Hp.rowAt mem2 (by omega) rfl) | exact Yl.load rfl rfl (by kernel_rfl) (Hp.rowAt mem3 (by omega) rfl) | exact Yl.load rfl rfl (by kernel_rfl) (Hp.rowAt mem4 (by omega) rfl)
                          refine' TA.y (i := 12) #[true, true, true, true, true, true, true, true, true, true, true, true, true, false, false, false, false, false] rfl rfl rfl (by kernel_rfl) (fun _ _ _ h => h) (fun _ h => by exact Hp.sub h (by repeat (first | exact List.Sublist.refl _ | apply List.Sublist.cons))) rfl ?hy305 ?_
                          case hy305 => exact Yl.move rfl rfl
                          refine' TA.y (i := 13) #[true, true, true, true, true, true, true, true, true, true, true, true, true, true, false, false, false, false] rfl rfl rfl (by kernel_rfl) (fun _ _ _ h => h) (fun _ h => by exact Hp.sub h (by repeat (first | exact List.Sublist.refl _ | apply List.Sublist.cons))) rfl ?hy306 ?_
                          case hy306 => exact Yl.move rfl rfl
                          refine' TA.y (i := 14) #[true, true, true, true, true, true, true, true, true, true, true, true, true, true, true, false, false, false] rfl rfl rfl (by kernel_rfl) (fun _ _ _ h => h) (fun _ h => by exact Hp.sub h (by repeat (first | exact List.Sublist.refl _ | apply List.Sublist.cons))) rfl ?hy307 ?_
                          case hy307 => first | exact Yl.ixn rfl rfl rfl Try.underlying25 (by kernel_rfl) (by omega) | exact Yl.ixz rfl rfl rfl Try.underlying25 (by kernel_rfl) (by omega) (by omega) | exact Yl.ixcn rfl rfl rfl Try.underlying25 (by kernel_rfl) (by omega) | exact Yl.ixcz rfl rfl rfl Try.underlying25 (by kernel_rfl) (by omega) (by omega)
                          refine' TA.y (i := 15) #[true, true, true, true, true, true, true, true, true, true, true, true, true, true, true, true, false, false] rfl rfl rfl (by kernel_rfl) (fun _ _ _ h => h) (fun _ h => by exact Hp.sub h (by repeat (first | exact List.Sublist.refl _ | apply List.Sublist.cons))) rfl ?hy308 ?_
                          case hy308 => first | exact Yl.load rfl rfl (by kernel_rfl) (Hp.vw mem0 (by omega)) | exact Yl.load rfl rfl (by kernel_rfl) (Hp.vw mem1 (by omega)) | exact Yl.load rfl rfl (by kernel_rfl) (Hp.vw mem2 (by omega)) | exact Yl.load rfl rfl (by kernel_rfl) (Sl.nw hS (i := 0) rfl (by omega) (by decide)) | exact Yl.load rfl rfl (by kernel_rfl) (Sl.nw hS (i := 1) rfl (by omega) (by decide)) | exact Yl.load rfl rfl (by kernel_rfl) (Sl.nw hS (i := 2) rfl (by omega) (by decide)) | exact Yl.load rfl rfl (by kernel_rfl) (Hp.cell mem0 rfl) | exact Yl.load rfl rfl (by kernel_rfl) (Hp.cell mem1 rfl) | exact Yl.load rfl rfl (by kernel_rfl) (Hp.cell mem2 rfl) | exact Yl.load rfl rfl (by kernel_rfl) (Hp.cell mem3 rfl) | exact Yl.load rfl rfl (by kernel_rfl) (Hp.cell mem4 rfl) | exact Yl.load rfl rfl (by kernel_rfl) (Hp.rowAt mem0 (by omega) rfl) | exact Yl.load rfl rfl (by kernel_rfl) (Hp.rowAt mem1 (by omega) rfl) | exact Yl.load rfl rfl (by kernel_rfl) (Hp.rowAt mem2 (by omega) rfl) | exact Yl.load rfl rfl (by kernel_rfl) (Hp.rowAt mem3 (by omega) rfl) | exact Yl.load rfl rfl (by kernel_rfl) (Hp.rowAt mem4 (by omega) rfl)
                          refine' TA.y (i := 16) #[true, true, true, true, true, true, true, true, true, true, true, true, true, true, true, true, true, false] rfl rfl rfl (by kernel_rfl) (fun _ _ _ h => h) (fun _ h => by exact Hp.sub h (by repeat (first | exact List.Sublist.refl _ | apply List.Sublist.cons))) rfl ?hy309 ?_
                          case hy309 => exact Yl.bin rfl rfl rfl (Bin.neq _ _ _ _)
                          refine' TA.y (i := 17) #[true, true, true, true, true, true, true, true, true, true, true, true, true, true, true, true, true, true] rfl rfl rfl (by kernel_rfl) (fun _ _ _ h => h) (fun _ h => by exact Hp.sub h (by repeat (first | exact List.Sublist.refl _ | apply List.Sublist.cons))) rfl ?hy310 ?_
                          case hy310 => exact Yl.pickT rfl rfl rfl
                          refine TA.done (by kernel_rfl) ?_
                          refine TE.next ?_
                          refine TC.no rfl (by rw [all_top hv2 ht0 (fun _ _ => rfl) (fun _ _ => rfl) him (by assumption)]; simp) ?_
                          refine TC.skip ?_
                          refine TE.inNormal ?_
                          refine TE.next ?_
                          refine TC.region ?_
                          refine' TL.y rfl rfl rfl ?hy311 ?_
                          case hy311 => exact Yl.move rfl rfl
                          refine' TL.y rfl rfl rfl ?hy312 ?_
                          case hy312 => first | (refine Yl.val (Yl.bin rfl rfl rfl (Bin.add _ _ _ _)) (congrArg (Value.int .i64) (i64in ?_ ?_)) <;> omega) | exact Yl.bin rfl rfl rfl (Bin.add _ _ _ _)
                          refine' TL.y rfl rfl rfl ?hy313 ?_
                          case hy313 => exact Yl.assign rfl rfl
                          refine TL.nil ?_
                          refine TE.round (i + 1) ?hF314 ?hlt314 ?hs314 ?hm314
                          case hF314 => omega
                          case hlt314 => omega
                          case hs314 => exact ⟨rfl, rfl, rfl, rfl, rfl, rfl, rfl, rfl, trivial⟩
                          case hm314 => exact fun _ h => h
                        · skip
                          (try simp only [decide_eq_true_eq, decide_eq_false_iff_not, beq_iff_eq, beq_eq_false_iff_ne, bne_iff_ne, ne_eq, bne_eq_false_iff_eq, Bool.not_eq_true', Bool.not_eq_false', Int.not_lt, Int.not_le, gt_iff_lt, ge_iff_le] at hs180)
                          refine TA.skip (i := 8) #[true, true, true, true, true, true, true, true, true, false, false, false, false, false, false, false, false, false] rfl rfl rfl (by kernel_rfl) (fun _ _ _ h => h) rfl ?_
                          refine TA.skip (i := 9) #[true, true, true, true, true, true, true, true, true, true, false, false, false, false, false, false, false, false] rfl rfl rfl (by kernel_rfl) (fun _ _ _ h => h) rfl ?_
                          refine TA.skip (i := 10) #[true, true, true, true, true, true, true, true, true, true, true, false, false, false, false, false, false, false] rfl rfl rfl (by kernel_rfl) (fun _ _ _ h => h) rfl ?_
                          refine TA.skip (i := 11) #[true, true, true, true, true, true, true, true, true, true, true, true, false, false, false, false, false, false] rfl rfl rfl (by kernel_rfl) (fun _ _ _ h => h) rfl ?_
                          refine TA.skip (i := 12) #[true, true, true, true, true, true, true, true, true, true, true, true, true, false, false, false, false, false] rfl rfl rfl (by kernel_rfl) (fun _ _ _ h => h) rfl ?_
                          refine TA.skip (i := 13) #[true, true, true, true, true, true, true, true, true, true, true, true, true, true, false, false, false, false] rfl rfl rfl (by kernel_rfl) (fun _ _ _ h => h) rfl ?_
                          refine TA.skip (i := 14) #[true, true, true, true, true, true, true, true, true, true, true, true, true, true, true, false, false, false] rfl rfl rfl (by kernel_rfl) (fun _ _ _ h => h) rfl ?_
                          refine TA.skip (i := 15) #[true, true, true, true, true, true, true, true, true, true, true, true, true, true, true, true, false, false] rfl rfl rfl (by kernel_rfl) (fun _ _ _ h => h) rfl ?_
                          refine TA.skip (i := 16) #[true, true, true, true, true, true, true, true, true, true, true, true, true, true, true, true, true, false] rfl rfl rfl (by kernel_rfl) (fun _ _ _ h => h) rfl ?_
                          refine' TA.y (i := 17) #[true, true, true, true, true, true, true, true, true, true, true, true, true, true, true, true, true, true] rfl rfl rfl (by kernel_rfl) (fun _ _ _ h => h) (fun _ h => by exact Hp.sub h (by repeat (first | exact List.Sublist.refl _ | apply List.Sublist.cons))) rfl ?hy315 ?_
                          case hy315 => exact Yl.pickF rfl rfl rfl
                          refine TA.done (by kernel_rfl) ?_
                          refine TE.next ?_
                          refine TC.no rfl rfl ?_
                          refine TC.skip ?_
                          refine TE.inNormal ?_
                          refine TE.next ?_
                          refine TC.region ?_
                          refine' TL.y rfl rfl rfl ?hy316 ?_
                          case hy316 => exact Yl.move rfl rfl
                          refine' TL.y rfl rfl rfl ?hy317 ?_
                          case hy317 => first | (refine Yl.val (Yl.bin rfl rfl rfl (Bin.add _ _ _ _)) (congrArg (Value.int .i64) (i64in ?_ ?_)) <;> omega) | exact Yl.bin rfl rfl rfl (Bin.add _ _ _ _)
                          refine' TL.y rfl rfl rfl ?hy318 ?_
                          case hy318 => exact Yl.assign rfl rfl
                          refine TL.nil ?_
                          refine TE.round (i + 1) ?hF319 ?hlt319 ?hs319 ?hm319
                          case hF319 => omega
                          case hlt319 => omega
                          case hs319 => exact ⟨rfl, rfl, rfl, rfl, rfl, rfl, rfl, rfl, trivial⟩
                          case hm319 => exact fun _ h => h
                    · skip
                      (try simp only [decide_eq_true_eq, decide_eq_false_iff_not, beq_iff_eq, beq_eq_false_iff_ne, bne_iff_ne, ne_eq, bne_eq_false_iff_eq, Bool.not_eq_true', Bool.not_eq_false', Int.not_lt, Int.not_le, gt_iff_lt, ge_iff_le] at hs134)
                      refine TC.exit ?_
                      refine TE.thenExit ?_
                      refine TE.thenExit ?_
                      refine TE.inHere ?_
                      refine TE.next ?_
                      refine TC.seq ?_
                      refine TC.region ?_
                      refine' TL.y rfl rfl rfl ?hy320 ?_
                      case hy320 => exact Yl.move rfl rfl
                      refine' TL.y rfl rfl rfl ?hy321 ?_
                      case hy321 => exact Yl.assign rfl rfl
                      refine TL.nil ?_
                      refine TE.next ?_
                      refine TC.ret ?_
                      refine TE.ret1 rfl rfl ?_
                      exact fun w h => ⟨rfl, (h.sub (List.nil_sublist _)).below⟩
end Go.Proofs.Ytipdpmmjmlimhaa.Pk
